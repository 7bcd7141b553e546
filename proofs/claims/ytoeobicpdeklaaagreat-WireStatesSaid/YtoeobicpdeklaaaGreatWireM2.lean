/- Walks of layer 2, printed by wip/gen/codec.py. -/
import Derived.Test.YtoeobicpdeklaaaGreatNrm
import Derived.Test.YtoeobicpdeklaaaGreatWireM
import Derived.Test.YtoeobicpdeklaaaGreatWireF
namespace Go.Proofs.YtoeobicpdeklaaaGreat
open Go Go.RowKit
set_option linter.unusedVariables false
attribute [local irreducible] Still Ops Does Cd
set_option maxRecDepth 100000 in
set_option maxHeartbeats 4000000 in
theorem vlholder_w (gp go o : Nat) (g0 : Option Nat) (cap0 : Nat) (sp0 : List Value) (st : WS) (U : TypeId) (cs : List Value) (x : List thholder.X) (vs : List Value) (w0 : World) (m : Nat) (a : WS) (H0 : Hp w0 w0 (bl (vwo gp g0 cap0 sp0 st go U cs)) (vwo gp g0 cap0 sp0 st go U cs)) (hm : m + (Th.many thholder false).mx ≤ 1000000000) (hP : POk m g0 cap0 sp0 st) (ha : Alike a st) (hM : (Th.many thholder false).M w0 (fun b => b ∉ bl (vwo gp g0 cap0 sp0 st go U cs)) x vs) (hat : At cs o vs) :
    Does Tryz.prog 103 #[.pointer (some ⟨gp, 0, none⟩), .pointer (some ⟨go, o, none⟩)] w0 (fun _ w' => VwOut (m + (Th.many thholder false).mx) gp (wAll ((Th.many thholder false).fl x) a) go U cs w0 (bl (vwo gp g0 cap0 sp0 st go U cs)) w') := by
  refine does_of Tryz.func103 Tryz.ntmps103 rfl ?_
  refine nR55 ?_
  have H := H0
  change m + 393261 ≤ 1000000000 at hm
  obtain ⟨B, c, cells, rfl, hz, hrd, hap, ht, hel⟩ := hM
  have hcq : cs[o]? = some (.slice B x.length c) := by have := hat 0 _ rfl; rwa [Nat.add_zero] at this
  refine run_seq ?_
  refine run_region ?_
  refine ops_val (ex_move rfl) ?_
  refine ops_val (ex_nilCheck rfl) ?_
  refine ops_val (ex_load ty90 rfl (H.cell (i := 2) rfl hcq)) ?_
  refine ops_val (ex_assign rfl) ?_
  refine ops_nil ?_
  refine nR55 ?_
  refine run_seq ?_
  refine run_region ?_
  refine ops_val (ex_move rfl) ?_
  refine ops_val (ex_move rfl) ?_
  refine ops_val (ex_len_slice Tryz.underlying90 rfl) ?_
  have hA1 : Alike (wl thholder x 0 a) (vFld (.count x.length) st) := alike_fld _ ha
  have hlg : (st.long = true ∨ 1024 < x.length) → (wl thholder x 0 a).long = true := fun h => (alike_out hA1).1 (.inl (by
    have : vFld (.count x.length) st = ⟨st.out, true⟩ := vFld_count_long (h.imp id (fun h => by simp [tooLong]; omega))
    rw [this]))
  have hk := many_w gp g0 cap0 sp0 st x.length _ (Hp.less (es := vw gp g0 cap0 sp0 st) (R := [(some go, U, cs)]) H).here m (by omega) hP (by have := hz.1; omega)
  refine ops_call (ex_call gf79 rfl) hk ?_
  rintro _ w1 ⟨g, cap, sp, rfl, hP1, Hd⟩
  obtain ⟨nn, hnn⟩ : ∃ nn, (if st.long = true ∨ 1024 < x.length then 0 else x.length) = nn := ⟨_, rfl⟩
  rw [hnn]
  have hnx : nn ≤ x.length := by split at hnn <;> omega
  have H1 := Hp.front (R := [(some go, U, cs)]) H Hd
  refine nO55 ?_
  refine ops_val (ex_assign rfl) ?_
  refine ops_nil ?_
  refine nR55 ?_
  refine run_seq ?_
  refine run_seq ?_
  refine run_region ?_
  refine ops_val (ex_move rfl) ?_
  refine ops_val (ex_nilCheck rfl) ?_
  refine ops_val (ex_fieldAddr fl51_1 rfl) ?_
  refine ops_val (ex_load ty49 rfl (H1.cell (i := 0) rfl rfl)) ?_
  refine nO55 ?_
  refine ops_false (ex_neq_nil_ptr Tryz.underlying49 rfl) (by simp) ?_
  refine ops_nil ?_
  refine nR55 ?_
  refine run_cond_false rfl ?_
  refine run_skip ?_
  refine run_seq ?_
  refine run_region ?_
  refine ops_val (ex_assign rfl) ?_
  refine ops_nil ?_
  refine nR55 ?_
  refine run_block ?_
  refine run_loop (fun n l w => ∃ (q : Nat) (y : Int) (s1 : WS) (g : Option Nat) (cap : Nat) (sp : List Value), nn - q = n ∧ Fits [some (.pointer (some ⟨gp, 0, none⟩)), some (.pointer (some ⟨go, o, none⟩)), none, none, some (.slice B x.length c), some (.int .i64 (nn : Int)), some (.int .i64 y), none, none, none, none, none, none, none, none, none, none, none, none, none, none, none, none, none, none, none, none, none, none, none, none, none, none, none, none, none, none, none, none, none, none, none, none, none, none, none, none, none, none, none, none, none, none, none, none] l ∧ y = q ∧ q ≤ nn ∧ Alike (wl thholder x q a) s1 ∧ POk (m + 393261) g cap sp s1 ∧ Hp w0 w (bl (vwo gp g0 cap0 sp0 st go U cs)) (vwo gp g cap sp s1 go U cs)) (nn) ?_ ?_
  · exact ⟨0, _, _, g, cap, sp, rfl, (fs (fs (fn (fn (fs (fs (fs (fn (fn (fn (fn (fn (fn (fn (fn (fn (fn (fn (fn (fn (fn (fn (fn (fn (fn (fn (fn (fn (fn (fn (fn (fn (fn (fn (fn (fn (fn (fn (fn (fn (fn (fn (fn (fn (fn (fn (fn (fn (fn (fn (fn (fn (fn (fn (fn f0))))))))))))))))))))))))))))))))))))))))))))))))))))))), rfl, Nat.zero_le _, hA1, hP1.mono (by omega), H1⟩
  · rintro n l w2 ⟨q, y, s1, g, cap, sp, rfl, hfit, rfl, hq, hA, hP, H2⟩
    obtain ⟨j, rfl⟩ := hfit.open
    refine nR55 ?_
    clear hfit
    refine run_seq ?_
    refine run_seq ?_
    refine run_region ?_
    refine ops_val (ex_move rfl) ?_
    refine ops_val (ex_move rfl) ?_
    refine ops_test (ex_lss rfl rfl) (fun hp24 => ?_) (fun hp24 => ?_)
    · have hql : q < nn := by omega
      have hqx : q < x.length := by omega
      refine ops_val (ex_move rfl) ?_
      refine nO55 ?_
      refine ops_yes rfl ?_
      refine ops_val (ex_move rfl) ?_
      refine ops_yes rfl ?_
      have hk := more_w gp g cap sp s1 _ (Hp.less (es := vw gp g cap sp s1) (R := [(some go, U, cs)]) H2).here
      refine ops_call_val (ex_call gf80 rfl) hk ?_
      intro w3 Hd
      have H3 := Hp.front (R := [(some go, U, cs)]) H2 Hd
      refine ops_val (ex_pick_t rfl rfl) ?_
      refine ops_nil ?_
      refine nR55 ?_
      refine run_cond rfl (fun hb28 => ?_) (fun hb28 => ?_)
      · have hmo : ¬ (s1.long = true ∨ 65536 < s1.out.length) := by simpa using hb28
        refine run_skip ?_
        refine run_seq ?_
        refine run_block ?_
        refine run_seq ?_
        refine run_region ?_
        obtain ⟨pa, hpa⟩ := hrd.some_ (by omega)
        subst hpa
        have hpb := hap (by omega) pa rfl
        have hln : ((cells.drop (q * 4)).take 4).length = 4 := elem_len hrd hqx
        refine ops_alloc ty141 H3 ?_
        intro w4 gv H4 hgv
        refine ops_nil ?_
        refine nR55 ?_
        refine run_seq ?_
        refine run_seq ?_
        refine run_region ?_
        refine ops_val (ex_move rfl) ?_
        refine ops_val (ex_nilCheck rfl) ?_
        refine ops_val (ex_fieldAddr fl51_1 rfl) ?_
        refine ops_val (ex_load ty49 rfl (H4.cell (i := 0) rfl rfl)) ?_
        refine nO55 ?_
        refine ops_true (ex_eql_nil_ptr Tryz.underlying49 rfl) (rfl) ?_
        refine ops_nil ?_
        refine nR55 ?_
        refine run_cond_true rfl ?_
        refine run_region ?_
        refine ops_val (ex_move rfl) ?_
        refine ops_val (ex_move rfl) ?_
        refine ops_val (ex_idx Tryz.underlying90 ty141 rfl rfl rfl hqx rfl) ?_
        refine ops_val (ex_loadN ty141 rfl (vs := ((cells.drop (q * 4)).take 4)) hln ((elem_cl hrd hqx hpb).to H4).cell) ?_
        refine nO55 ?_
        refine ops_store ty141 H4 3 rfl rfl rfl rfl hln (by rw [hln]; decide) (thholder.ones (hel q hqx)) ?_
        intro w5 H5
        have hpu : putAt [.int .i64 0, .int .i64 0, .int .i64 0, .int .i64 0] 0 ((cells.drop (q * 4)).take 4) = ((cells.drop (q * 4)).take 4) := putAt_all hln
        rw [hpu] at H5
        refine ops_nil ?_
        refine nR55 ?_
        refine run_seq ?_
        refine run_region ?_
        refine ops_val (ex_move rfl) ?_
        have HX : Hp w0 w5 (bl (vwo gp g0 cap0 sp0 st go U cs)) (vwo gp g cap sp s1 gv 141 ((cells.drop (q * 4)).take 4) ++ [(some go, U, cs)]) := H5.pick [0, 1, 3, 2] (by decide)
        have hMq := thholder.to (hel q hqx) HX.less (fun _ h => h)
        refine ops_call (ex_call gf110 rfl) (vholder_W gp gv 0 g cap sp s1 141 _ x[q] _ _ 65536 (wl thholder x q a) HX.less.here (by decide) ⟨hP.1, hP.2, hP.3, by omega⟩ hA (thholder.mono hMq fun _ h => h.2) (At.self _)) ?_
        rintro _ w6 ⟨s2, g, cap, sp, hA2, hP2, Hd⟩
        have H6 := (HX.front Hd).pick [0, 1, 3] (by decide)
        refine ops_nil ?_
        refine nR55 ?_
        refine run_seq ?_
        refine run_region ?_
        refine ops_val (ex_move rfl) ?_
        refine ops_val (ex_nilCheck rfl) ?_
        refine ops_val (ex_fieldAddr fl51_1 rfl) ?_
        refine ops_val (ex_load ty49 rfl (H6.cell (i := 0) rfl rfl)) ?_
        refine nO55 ?_
        refine ops_false (ex_neq_nil_ptr Tryz.underlying49 rfl) (by simp) ?_
        refine ops_nil ?_
        refine nR55 ?_
        refine run_cond_false rfl ?_
        refine run_skip ?_
        refine run_nil (blk_normal ?_)
        refine run_region ?_
        refine ops_val (ex_move rfl) ?_
        refine ops_val (ex_add rfl rfl (IntWalk.i64_in _ (by omega))) ?_
        refine ops_val (ex_assign rfl) ?_
        refine ops_nil ?_
        refine nR55 ?_
        refine run_nil (rnd_normal ?_)
        exact ⟨nn - (q + 1), by omega, q + 1, _, s2, g, cap, sp, rfl, (fs (fs (fn (fn (fs (fs (fs (fn (fn (fn (fn (fn (fn (fn (fn (fn (fn (fn (fn (fn (fn (fn (fn (fn (fn (fn (fn (fn (fn (fn (fn (fn (fn (fn (fn (fn (fn (fn (fn (fn (fn (fn (fn (fn (fn (fn (fn (fn (fn (fn (fn (fn (fn (fn (fn f0))))))))))))))))))))))))))))))))))))))))))))))))))))))), rfl, by omega, by rw [wl_succ hqx]; exact hA2, hP2.mono (show 65536 + 262180 ≤ m + 393261 by omega), H6⟩
      · have hmo : s1.long = true ∨ 65536 < s1.out.length := by
          have h := of_decide_eq_false hb28
          exact Classical.not_not.1 h
        refine run_exit ?_
        refine rnd_exit ?_
        refine blk_exit ?_
        refine run_nil ?_
        refine fin_end0 rfl ?_
        have e : wAll ((Th.many thholder false).fl x) a = wl thholder x q a := wl_stop false ((alike_out hA).1 hmo)
        rw [e]
        exact ⟨s1, g, cap, sp, hA, hP, H3⟩
    · have hqm : q = nn := by omega
      subst hqm
      refine ops_val (ex_move rfl) ?_
      refine nO55 ?_
      refine ops_no rfl ?_
      refine ops_no rfl ?_
      refine ops_val (ex_pick_f rfl rfl) ?_
      refine ops_nil ?_
      refine nR55 ?_
      refine run_cond_false rfl ?_
      refine run_exit ?_
      refine rnd_exit ?_
      refine blk_exit ?_
      refine run_nil ?_
      refine fin_end0 rfl ?_
      have e : wAll ((Th.many thholder false).fl x) a = wl thholder x q a := by
        by_cases hc : st.long = true ∨ 1024 < x.length
        · rw [if_pos hc] at hnn
          subst hnn
          exact wl_stop false (hlg hc)
        · rw [if_neg hc] at hnn
          subst hnn
          exact (wl_all thholder false x a).symm
      rw [e]
      exact ⟨s1, g, cap, sp, hA, hP, H2⟩
theorem vlholder_W : WalkW Tryz.prog 103 (Th.many thholder false) := vlholder_w
set_option maxRecDepth 100000 in
set_option maxHeartbeats 4000000 in
theorem vlholder_r (gp gr : Nat) (gb : Option Nat) (cb : Nat) (sb : List Value) (b : List UInt8) (hcb : b.length ≤ cb) (hbl : b.length ≤ 65536) (go o i e : Nat) (U : TypeId) (cs : List Value) (w0 : World) (H0 : Hp w0 w0 (bl (vr gp gr gb cb sb b i e ++ [(some go, U, cs)])) (vr gp gr gb cb sb b i e ++ [(some go, U, cs)])) (hi : i ≤ b.length) (hat : At cs o (Th.many thholder false).zs) (hfit : o + (Th.many thholder false).sz ≤ cs.length) :
    Does Tryz.prog 103 #[.pointer (some ⟨gp, 0, none⟩), .pointer (some ⟨go, o, none⟩)] w0 (fun _ w' => RdOut (vr gp gr gb cb sb b) (Th.many thholder false) go o U cs b i e w0.heap.size w0 (bl (vr gp gr gb cb sb b i e ++ [(some go, U, cs)])) w') := by
  refine does_of Tryz.func103 Tryz.ntmps103 rfl ?_
  refine nR55 ?_
  have H := H0
  change o + 1 ≤ cs.length at hfit
  have hcq : cs[o]? = some (Value.slice none 0 0) := by have := hat 0 _ rfl; rwa [Nat.add_zero] at this
  have hrow : putAt cs o [Value.slice none 0 0] = cs := putAt_same hat (by simpa using hfit)
  refine run_seq ?_
  refine run_region ?_
  refine ops_val (ex_move rfl) ?_
  refine ops_val (ex_nilCheck rfl) ?_
  refine ops_val (ex_load ty90 rfl (H.cell (i := 3) rfl hcq)) ?_
  refine ops_val (ex_assign rfl) ?_
  refine ops_nil ?_
  refine nR55 ?_
  refine run_seq ?_
  refine run_region ?_
  refine ops_val (ex_move rfl) ?_
  refine ops_val (ex_move rfl) ?_
  refine ops_val (ex_len_slice Tryz.underlying90 rfl) ?_
  obtain ⟨⟨nn, ic, ec⟩, hcn⟩ : ∃ s, countStep b 1024 i e = s := ⟨_, rfl⟩
  have hcb2 := countStep_le (b := b) (most := 1024) (i := i) (e := e) hi
  have hic := hcb2.1
  have hn3 := hcb2.2.2.1
  rw [hcn] at hic hn3
  simp only at hic hn3
  have hnn : nn ≤ 1024 := by have : ((nn : Nat) : Int) ≤ max 1024 0 := hn3; omega
  have hmr : (Th.many thholder false).rd b i e = rdN thholder b nn ic ec := by
    show rdN thholder b (countStep b 1024 i e).1 (countStep b 1024 i e).2.1 (countStep b 1024 i e).2.2 = _
    rw [hcn]
  have hk := many_r gp gr gb cb sb b i e _ (Hp.less (es := vr gp gr gb cb sb b i e) (R := [(some go, U, cs)]) H).here hcb hbl hi
  rw [hcn] at hk
  refine ops_call_val (ex_call gf79 rfl) hk ?_
  intro w1 Hd
  have HN0 := Hp.front (R := [(some go, U, cs)]) H Hd
  have H1 := HN0
  refine nO55 ?_
  refine ops_val (ex_assign rfl) ?_
  refine ops_nil ?_
  refine nR55 ?_
  refine run_seq ?_
  refine run_seq ?_
  refine run_region ?_
  refine ops_val (ex_move rfl) ?_
  refine ops_val (ex_nilCheck rfl) ?_
  refine ops_val (ex_fieldAddr fl51_1 rfl) ?_
  refine ops_val (ex_load ty49 rfl (H1.cell (i := 0) rfl rfl)) ?_
  refine nO55 ?_
  refine ops_true (ex_neq_nil_ptr Tryz.underlying49 rfl) (by simp) ?_
  refine ops_nil ?_
  refine nR55 ?_
  refine run_cond_true rfl ?_
  refine run_region ?_
  refine ops_val (ex_move rfl) ?_
  refine ops_val (ex_nilCheck rfl) ?_
  have hset : cs.set o (Value.slice none 0 0) = putAt cs o [Value.slice none 0 0] := (putAt_one (by omega)).symm
  refine ops_store1 ty90 H1 3 rfl rfl rfl rfl (by omega) rfl ?_
  intro w2 HN0
  have H2 : Hp w0 w2 (bl (vr gp gr gb cb sb b i e ++ [(some go, U, cs)])) (vr gp gr gb cb sb b ic ec ++ [(some go, U, putAt cs o [Value.slice none 0 0])]) := by rw [← hset]; exact HN0
  refine ops_nil ?_
  refine nR55 ?_
  refine run_seq ?_
  refine run_region ?_
  refine ops_val (ex_assign rfl) ?_
  refine ops_nil ?_
  refine nR55 ?_
  refine run_block ?_
  refine run_loop (fun n l w => ∃ (q : Nat) (y : Int) (i1 e1 : Nat) (xs : List thholder.X) (uc spl : List Value) (gl : Option Nat) (capl : Nat), nn - q = n ∧ Fits [some (.pointer (some ⟨gp, 0, none⟩)), some (.pointer (some ⟨go, o, none⟩)), none, none, none, some (.int .i64 (nn : Int)), some (.int .i64 y), none, none, none, none, none, none, none, none, none, none, none, none, none, none, none, none, none, none, none, none, none, none, none, none, none, none, none, none, none, none, none, none, none, none, none, none, none, none, none, none, none, none, none, none, none, none, none, none] l ∧ y = q ∧ q ≤ nn ∧ xs.length = q ∧ rdN thholder b nn ic ec = (xs ++ (rdN thholder b (nn - q) i1 e1).1, (rdN thholder b (nn - q) i1 e1).2) ∧ i1 ≤ b.length ∧ uc.length = q * 4 ∧ uc.all (·.oneCell') = true ∧ q ≤ capl ∧ capl * 4 ≤ (uc ++ spl).length ∧ (gl = none → capl = 0) ∧ Hp w0 w (bl (vr gp gr gb cb sb b i e ++ [(some go, U, cs)])) ((vr gp gr gb cb sb b i1 e1 ++ [(some go, U, putAt cs o [Value.slice (hd gl) q capl])]) ++ [(gl, 141, uc ++ spl)]) ∧ (e1 = 0 → ∀ j (hj : j < xs.length), thholder.M w (Fr w w0.heap.size ((vr gp gr gb cb sb b i1 e1 ++ [(some go, U, putAt cs o [Value.slice (hd gl) q capl])]) ++ [(gl, 141, uc ++ spl)])) xs[j] ((uc.drop (j * 4)).take 4))) (nn) ?_ ?_
  · exact ⟨0, _, ic, ec, [], [], [], none, 0, rfl, (fs (fs (fn (fn (fn (fs (fs (fn (fn (fn (fn (fn (fn (fn (fn (fn (fn (fn (fn (fn (fn (fn (fn (fn (fn (fn (fn (fn (fn (fn (fn (fn (fn (fn (fn (fn (fn (fn (fn (fn (fn (fn (fn (fn (fn (fn (fn (fn (fn (fn (fn (fn (fn (fn (fn f0))))))))))))))))))))))))))))))))))))))))))))))))))))))), rfl, Nat.zero_le _, rfl, rfl, hic, rfl, rfl, Nat.le_refl _, Nat.zero_le _, fun _ => rfl, (H2.nil 141), fun _ j hj => by cases hj⟩
  · rintro n l w3 ⟨q, y, i1, e1, xs, uc, spl, gl, capl, rfl, hfit, rfl, hq, hxs, hrd, hi1, hul, huo, hqc, hcl, hgl, H3, hel⟩
    obtain ⟨j, rfl⟩ := hfit.open
    refine nR55 ?_
    clear hfit
    refine run_seq ?_
    refine run_seq ?_
    refine run_region ?_
    refine ops_val (ex_move rfl) ?_
    refine ops_val (ex_move rfl) ?_
    refine ops_test (ex_lss rfl rfl) (fun hp24 => ?_) (fun hp24 => ?_)
    · have hql : q < nn := by omega
      refine ops_val (ex_move rfl) ?_
      refine nO55 ?_
      refine ops_yes rfl ?_
      refine ops_val (ex_move rfl) ?_
      refine ops_yes rfl ?_
      have HZ : Hp w0 w3 (bl (vr gp gr gb cb sb b i e ++ [(some go, U, cs)])) (vr gp gr gb cb sb b i1 e1 ++ [(some go, U, putAt cs o [Value.slice (hd gl) q capl]), (gl, 141, uc ++ spl)]) := H3
      have hk := more_r gp gr gb cb sb b i1 e1 _ (Hp.less (es := vr gp gr gb cb sb b i1 e1) HZ).here
      refine ops_call_val (ex_call gf80 rfl) hk ?_
      intro w4 Hd
      replace hel := fun h0 j hj => Fr.to (hel h0 j hj) (Hp.front (R := [(some go, U, putAt cs o [Value.slice (hd gl) q capl]), (gl, 141, uc ++ spl)]) HZ.here Hd)
      have H4 := Hp.front HZ Hd
      refine ops_val (ex_pick_t rfl rfl) ?_
      refine ops_nil ?_
      refine nR55 ?_
      refine run_cond rfl (fun hb28 => ?_) (fun hb28 => ?_)
      · have he1 : e1 = 0 := by simpa using hb28
        refine run_skip ?_
        refine run_seq ?_
        refine run_block ?_
        refine run_seq ?_
        refine run_region ?_
        have HB := H4
        replace H4 := HB.here
        refine ops_alloc ty141 H4 ?_
        intro w5 gx H5 hgx
        refine ops_nil ?_
        refine nR55 ?_
        refine run_seq ?_
        refine run_seq ?_
        refine run_region ?_
        refine ops_val (ex_move rfl) ?_
        refine ops_val (ex_nilCheck rfl) ?_
        refine ops_val (ex_fieldAddr fl51_1 rfl) ?_
        refine ops_val (ex_load ty49 rfl (H5.cell (i := 0) rfl rfl)) ?_
        refine nO55 ?_
        refine ops_false (ex_eql_nil_ptr Tryz.underlying49 rfl) (by simp) ?_
        refine ops_nil ?_
        refine nR55 ?_
        refine run_cond_false rfl ?_
        refine run_skip ?_
        refine run_seq ?_
        refine run_region ?_
        refine ops_val (ex_move rfl) ?_
        have HX : Hp _ w5 _ ((vr gp gr gb cb sb b i1 e1 ++ [(some gx, 141, [.int .i64 0, .int .i64 0, .int .i64 0, .int .i64 0])]) ++ [(some go, U, putAt cs o [Value.slice (hd gl) q capl]), (gl, 141, uc ++ spl)]) := H5.pick [0, 1, 2, 5, 3, 4] (by decide)
        obtain ⟨⟨xv, i2, e2⟩, hx⟩ : ∃ s, thholder.rd b i1 e1 = s := ⟨_, rfl⟩
        have hi2 : i2 ≤ b.length := by have := thholder.le (b := b) (e := e1) hi1; rw [hx] at this; exact this
        refine ops_call (ex_call gf110 rfl) (vholder_R gp gr gb cb sb b hcb hbl gx 0 i1 e1 141 _ _ HX.less.here hi1 (At.self _) (Nat.le_refl _)) ?_
        rintro _ w6 ⟨us, hus, huno, Hd, hMx⟩
        rw [hx] at Hd hMx
        simp only at Hd hMx
        have hpu : putAt [.int .i64 0, .int .i64 0, .int .i64 0, .int .i64 0] 0 us = us := putAt_all hus
        rw [hpu] at Hd hMx
        have hnsz := Nat.le_trans HB.size HX.size
        have HC := HX.front Hd
        replace hMx := fun h0 => thholder.mono (ok' := Fr w6 w0.heap.size ((vr gp gr gb cb sb b i2 e2 ++ [(some gx, 141, us)]) ++ [(some go, U, putAt cs o [Value.slice (hd gl) q capl]), (gl, 141, uc ++ spl)])) (hMx h0) (fun p hp => ⟨by have := hp.1; omega, fun hq => by
          rw [bl_append] at hq
          rcases List.mem_append.1 hq with hq | hq
          · exact hp.2.1 hq
          · have h1 := bl_lt HX (b := p) (by rw [bl_append]; exact List.mem_append_right _ hq)
            have := hp.1
            omega, hp.2.2⟩)
        replace hel := fun h0 j hj => Fr.to (hel h0 j hj) HC
        have H6 := HC.here
        refine ops_nil ?_
        refine nR55 ?_
        refine run_seq ?_
        refine run_region ?_
        refine ops_val (ex_move rfl) ?_
        refine ops_val (ex_nilCheck rfl) ?_
        refine ops_val (ex_fieldAddr fl51_1 rfl) ?_
        refine ops_val (ex_load ty49 rfl (H6.cell (i := 0) rfl rfl)) ?_
        refine nO55 ?_
        refine ops_true (ex_neq_nil_ptr Tryz.underlying49 rfl) (by simp) ?_
        refine ops_nil ?_
        refine nR55 ?_
        refine run_cond_true rfl ?_
        refine run_mixZ 8 [(true, 0), (true, 1), (true, 2), (true, 3), (true, 4), (false, 5), (false, 6), (true, 7), (false, 8)] H6 [0, 1, 2, 3, 4] mixed (by decide) (by kernel_rfl) ?_
        rintro w7 hw7
        have H7 := Hp.drew H6; rw [← hw7] at H7
        refine mixz_p rfl ?_
        refine mix1_val (fun wz hz => ex_move rfl) ?_
        refine mixz_p rfl ?_
        refine mix1_val (fun wz hz => ex_move rfl) ?_
        refine mixz_p rfl ?_
        refine mix1_val (fun wz hz => ex_nilCheck rfl) ?_
        refine mixz_p rfl ?_
        refine mix1_val (fun wz hz => ex_load ty90 rfl (hz.cell (i := 4) rfl (show (putAt cs o [Value.slice (hd gl) q capl])[o]? = some (Value.slice (hd gl) q capl) from by rw [putAt_get (by simpa using hfit), if_neg (by omega), if_pos (by simp)]; simp))) ?_
        refine nZ55 ?_
        refine mixz_p rfl ?_
        refine mix1_val (fun wz hz => ex_loadN ty141 rfl (vs := us) hus (hz.cells (i := 3) rfl)) ?_
        refine mixz_o rfl ?_
        refine ops_build1 Tryz.underlying90 ty141 H7 rfl rfl hus (by decide) ?_
        intro w8 gn H8 hgn
        refine ops_nil ?_
        refine ⟨fun hne => H8.pick [0, 1, 2, 3, 4] (by decide), ?_⟩
        refine nZ55 ?_
        refine mixz_o rfl ?_
        refine ops_append Tryz.underlying90 ty141 (by decide) H8 5 (g := gl) (xs := uc) (sp := spl) rfl rfl hul hcl hqc hgl rfl (H8.rd (i := 6) (o := some gn) (xs := us) (sp := []) (by rw [List.append_nil]; rfl) (by rw [hus, Nat.one_mul]; rfl) (by decide)) huno (by omega) (by omega) (by decide) ?_
        intro w9 gl2 capl2 spl2 H9 hcl2 hqc2 hgl2
        refine ops_nil ?_
        refine ⟨fun hne => H9.pick [0, 1, 2, 3, 4] (by decide), ?_⟩
        refine nZ55 ?_
        refine mixz_p rfl ?_
        refine mix1_val (fun wz hz => ex_nilCheck rfl) ?_
        refine mixz_o rfl ?_
        refine ops_store1 ty90 H9 4 rfl rfl rfl rfl (by rw [putAt_len (by simpa using hfit)]; omega) rfl ?_
        intro w10 HS0
        have hset2 : (putAt cs o [Value.slice (hd gl) q capl]).set o (Value.slice (hd gl2) (q + 1) capl2) = putAt cs o [Value.slice (hd gl2) (q + 1) capl2] := by
          apply List.ext_getElem?
          intro j
          rw [List.getElem?_set, putAt_len (by simpa using hfit), putAt_get (by simpa using hfit), putAt_get (by simpa using hfit)]
          by_cases hj : o = j
          · subst hj; rw [if_pos rfl, if_pos (by omega), if_neg (by omega), if_pos (by simp)]; simp
          · rw [if_neg hj]
            split
            · rfl
            · rw [if_neg (by simp; omega), if_neg (by simp; omega)]
        have H10 := HS0
        refine ops_nil ?_
        refine ⟨fun hne => absurd rfl hne, ?_⟩
        refine nZ55 ?_
        refine mixz_nil ?_
        refine nR55 ?_
        refine run_nil (blk_normal ?_)
        refine run_region ?_
        refine ops_val (ex_move rfl) ?_
        refine ops_val (ex_add rfl rfl (IntWalk.i64_in _ (by omega))) ?_
        refine ops_val (ex_assign rfl) ?_
        refine ops_nil ?_
        refine nR55 ?_
        refine run_nil (rnd_normal ?_)
        have h1 := H10.pick [0, 1, 2, 4, 5] (by decide)
        rw [hset2] at h1
        have HR := (show ∀ (wa wb : World) (SS : List Nat), Hp wa wb SS ((vr gp gr gb cb sb b i2 e2 ++ [(some go, U, putAt cs o [Value.slice (hd gl2) (q + 1) capl2])]) ++ [(gl2, 141, (uc ++ us) ++ spl2)]) → Hp wa wb SS ((vr gp gr gb cb sb b i2 e2 ++ [(some go, U, putAt cs o [Value.slice (hd gl2) (q + 1) capl2])]) ++ [(gl2, 141, (uc ++ us) ++ spl2)]) from fun _ _ _ h => h) _ _ _ h1
        refine ⟨nn - (q + 1), by omega, q + 1, _, i2, e2, xs ++ [xv], uc ++ us, spl2, gl2, capl2, rfl, (fs (fs (fn (fn (fn (fs (fs (fn (fn (fn (fn (fn (fn (fn (fn (fn (fn (fn (fn (fn (fn (fn (fn (fn (fn (fn (fn (fn (fn (fn (fn (fn (fn (fn (fn (fn (fn (fn (fn (fn (fn (fn (fn (fn (fn (fn (fn (fn (fn (fn (fn (fn (fn (fn (fn f0))))))))))))))))))))))))))))))))))))))))))))))))))))))), rfl, by omega, by simp [hxs], ?_, hi2, by rw [List.length_append, hul, hus]; show q * 4 + 4 = (q + 1) * 4; omega, by rw [List.all_append, huo, huno]; rfl, hqc2, hcl2, hgl2, (HB.all HC).all HR, ?_⟩
        · rw [hrd, rdN_step hql he1 hx, List.append_assoc]; rfl
        · intro h0 j hj
          simp only [List.length_append, List.length_cons, List.length_nil] at hj
          by_cases hjq : j < xs.length
          · rw [List.getElem_append_left hjq]
            have hd1 : ((uc ++ us).drop (j * 4)).take 4 = (uc.drop (j * 4)).take 4 := by
              have h1 : (j + 1) * 4 ≤ q * 4 := Nat.mul_le_mul_right _ (by omega)
              rw [List.drop_append_of_le_length (by omega), List.take_append_of_le_length (by rw [List.length_drop]; omega)]
            rw [hd1]
            exact Fr.to (hel he1 j hjq) HR
          · have hjj : j = xs.length := by omega
            subst hjj
            rw [List.getElem_append_right (Nat.le_refl _)]
            have hd2 : ((uc ++ us).drop (xs.length * 4)).take 4 = us := by
              rw [hxs, ← hul, List.drop_left]
              exact List.take_of_length_le (Nat.le_of_eq hus)
            simp only [Nat.sub_self, List.getElem_cons_zero]
            rw [hd2]
            exact Fr.to (hMx h0) HR
      · have he1 : e1 ≠ 0 := by simpa using hb28
        refine run_exit ?_
        refine rnd_exit ?_
        refine blk_exit ?_
        refine run_nil ?_
        refine fin_end0 rfl ?_
        have hrw : (Th.many thholder false).rd b i e = (xs, i1, e1) := by rw [hmr, hrd]; first | (rw [rdN_bad _ _ _ he1]; simp) | (simp [rdN])
        unfold RdOut
        rw [hrw]
        have HF : Hp w0 w4 _ ((vr gp gr gb cb sb b i1 e1 ++ [(some go, U, putAt cs o [Value.slice (hd gl) q capl])]) ++ [(gl, 141, uc ++ spl)]) := H4
        refine ⟨[Value.slice (hd gl) q capl], rfl, rfl, HF.less, fun h0 => ⟨hd gl, capl, uc, by rw [hxs], ⟨by rw [hxs]; omega, fun _ => by decide⟩, by rw [hxs]; exact HF.rd (i := 4) (o := gl) (xs := uc) (sp := spl) rfl hul (by decide), fun _ p hp => ⟨place_new HF rfl (i := 0) rfl p hp, row_apart HF (i := 0) rfl p hp, HF.tw (i := 4) rfl p hp⟩, fun _ _ p hp => HF.tw (i := 4) rfl p hp, fun j hj => thholder.mono (hel h0 j hj) (fun p hp => ⟨hp.1, fun hq => hp.2.1 (show p ∈ bl ((vr gp gr gb cb sb b i1 e1 ++ [(some go, U, putAt cs o [Value.slice (hd gl) q capl])]) ++ [(gl, 141, uc ++ spl)]) from bl_left hq), hp.2.2⟩)⟩⟩
    · have hqm : q = nn := by omega
      subst hqm
      refine ops_val (ex_move rfl) ?_
      refine nO55 ?_
      refine ops_no rfl ?_
      refine ops_no rfl ?_
      refine ops_val (ex_pick_f rfl rfl) ?_
      refine ops_nil ?_
      refine nR55 ?_
      refine run_cond_false rfl ?_
      refine run_exit ?_
      refine rnd_exit ?_
      refine blk_exit ?_
      refine run_nil ?_
      refine fin_end0 rfl ?_
      have hrw : (Th.many thholder false).rd b i e = (xs, i1, e1) := by rw [hmr, hrd]; first | (rw [rdN_bad _ _ _ he1]; simp) | (simp [rdN])
      unfold RdOut
      rw [hrw]
      have HF : Hp w0 w3 _ ((vr gp gr gb cb sb b i1 e1 ++ [(some go, U, putAt cs o [Value.slice (hd gl) q capl])]) ++ [(gl, 141, uc ++ spl)]) := H3
      refine ⟨[Value.slice (hd gl) q capl], rfl, rfl, HF.less, fun h0 => ⟨hd gl, capl, uc, by rw [hxs], ⟨by rw [hxs]; omega, fun _ => by decide⟩, by rw [hxs]; exact HF.rd (i := 4) (o := gl) (xs := uc) (sp := spl) rfl hul (by decide), fun _ p hp => ⟨place_new HF rfl (i := 0) rfl p hp, row_apart HF (i := 0) rfl p hp, HF.tw (i := 4) rfl p hp⟩, fun _ _ p hp => HF.tw (i := 4) rfl p hp, fun j hj => thholder.mono (hel h0 j hj) (fun p hp => ⟨hp.1, fun hq => hp.2.1 (show p ∈ bl ((vr gp gr gb cb sb b i1 e1 ++ [(some go, U, putAt cs o [Value.slice (hd gl) q capl])]) ++ [(gl, 141, uc ++ spl)]) from bl_left hq), hp.2.2⟩)⟩⟩
theorem vlholder_R : WalkR Tryz.prog 103 (Th.many thholder false) := vlholder_r
set_option maxRecDepth 100000 in
set_option maxHeartbeats 4000000 in
theorem vlwait_w (gp go o : Nat) (g0 : Option Nat) (cap0 : Nat) (sp0 : List Value) (st : WS) (U : TypeId) (cs : List Value) (x : List thwait.X) (vs : List Value) (w0 : World) (m : Nat) (a : WS) (H0 : Hp w0 w0 (bl (vwo gp g0 cap0 sp0 st go U cs)) (vwo gp g0 cap0 sp0 st go U cs)) (hm : m + (Th.many thwait false).mx ≤ 1000000000) (hP : POk m g0 cap0 sp0 st) (ha : Alike a st) (hM : (Th.many thwait false).M w0 (fun b => b ∉ bl (vwo gp g0 cap0 sp0 st go U cs)) x vs) (hat : At cs o vs) :
    Does Tryz.prog 51 #[.pointer (some ⟨gp, 0, none⟩), .pointer (some ⟨go, o, none⟩)] w0 (fun _ w' => VwOut (m + (Th.many thwait false).mx) gp (wAll ((Th.many thwait false).fl x) a) go U cs w0 (bl (vwo gp g0 cap0 sp0 st go U cs)) w') := by
  refine does_of Tryz.func51 Tryz.ntmps51 rfl ?_
  refine nR55 ?_
  have H := H0
  change m + 852076 ≤ 1000000000 at hm
  obtain ⟨B, c, cells, rfl, hz, hrd, hap, ht, hel⟩ := hM
  have hcq : cs[o]? = some (.slice B x.length c) := by have := hat 0 _ rfl; rwa [Nat.add_zero] at this
  refine run_seq ?_
  refine run_region ?_
  refine ops_val (ex_move rfl) ?_
  refine ops_val (ex_nilCheck rfl) ?_
  refine ops_val (ex_load ty24 rfl (H.cell (i := 2) rfl hcq)) ?_
  refine ops_val (ex_assign rfl) ?_
  refine ops_nil ?_
  refine nR55 ?_
  refine run_seq ?_
  refine run_region ?_
  refine ops_val (ex_move rfl) ?_
  refine ops_val (ex_move rfl) ?_
  refine ops_val (ex_len_slice Tryz.underlying24 rfl) ?_
  have hA1 : Alike (wl thwait x 0 a) (vFld (.count x.length) st) := alike_fld _ ha
  have hlg : (st.long = true ∨ 1024 < x.length) → (wl thwait x 0 a).long = true := fun h => (alike_out hA1).1 (.inl (by
    have : vFld (.count x.length) st = ⟨st.out, true⟩ := vFld_count_long (h.imp id (fun h => by simp [tooLong]; omega))
    rw [this]))
  have hk := many_w gp g0 cap0 sp0 st x.length _ (Hp.less (es := vw gp g0 cap0 sp0 st) (R := [(some go, U, cs)]) H).here m (by omega) hP (by have := hz.1; omega)
  refine ops_call (ex_call gf79 rfl) hk ?_
  rintro _ w1 ⟨g, cap, sp, rfl, hP1, Hd⟩
  obtain ⟨nn, hnn⟩ : ∃ nn, (if st.long = true ∨ 1024 < x.length then 0 else x.length) = nn := ⟨_, rfl⟩
  rw [hnn]
  have hnx : nn ≤ x.length := by split at hnn <;> omega
  have H1 := Hp.front (R := [(some go, U, cs)]) H Hd
  refine nO55 ?_
  refine ops_val (ex_assign rfl) ?_
  refine ops_nil ?_
  refine nR55 ?_
  refine run_seq ?_
  refine run_seq ?_
  refine run_region ?_
  refine ops_val (ex_move rfl) ?_
  refine ops_val (ex_nilCheck rfl) ?_
  refine ops_val (ex_fieldAddr fl51_1 rfl) ?_
  refine ops_val (ex_load ty49 rfl (H1.cell (i := 0) rfl rfl)) ?_
  refine nO55 ?_
  refine ops_false (ex_neq_nil_ptr Tryz.underlying49 rfl) (by simp) ?_
  refine ops_nil ?_
  refine nR55 ?_
  refine run_cond_false rfl ?_
  refine run_skip ?_
  refine run_seq ?_
  refine run_region ?_
  refine ops_val (ex_assign rfl) ?_
  refine ops_nil ?_
  refine nR55 ?_
  refine run_block ?_
  refine run_loop (fun n l w => ∃ (q : Nat) (y : Int) (s1 : WS) (g : Option Nat) (cap : Nat) (sp : List Value), nn - q = n ∧ Fits [some (.pointer (some ⟨gp, 0, none⟩)), some (.pointer (some ⟨go, o, none⟩)), none, none, some (.slice B x.length c), some (.int .i64 (nn : Int)), some (.int .i64 y), none, none, none, none, none, none, none, none, none, none, none, none, none, none, none, none, none, none, none, none, none, none, none, none, none, none, none, none, none, none, none, none, none, none, none, none, none, none, none, none, none, none, none, none, none, none, none, none] l ∧ y = q ∧ q ≤ nn ∧ Alike (wl thwait x q a) s1 ∧ POk (m + 852076) g cap sp s1 ∧ Hp w0 w (bl (vwo gp g0 cap0 sp0 st go U cs)) (vwo gp g cap sp s1 go U cs)) (nn) ?_ ?_
  · exact ⟨0, _, _, g, cap, sp, rfl, (fs (fs (fn (fn (fs (fs (fs (fn (fn (fn (fn (fn (fn (fn (fn (fn (fn (fn (fn (fn (fn (fn (fn (fn (fn (fn (fn (fn (fn (fn (fn (fn (fn (fn (fn (fn (fn (fn (fn (fn (fn (fn (fn (fn (fn (fn (fn (fn (fn (fn (fn (fn (fn (fn (fn f0))))))))))))))))))))))))))))))))))))))))))))))))))))))), rfl, Nat.zero_le _, hA1, hP1.mono (by omega), H1⟩
  · rintro n l w2 ⟨q, y, s1, g, cap, sp, rfl, hfit, rfl, hq, hA, hP, H2⟩
    obtain ⟨j, rfl⟩ := hfit.open
    refine nR55 ?_
    clear hfit
    refine run_seq ?_
    refine run_seq ?_
    refine run_region ?_
    refine ops_val (ex_move rfl) ?_
    refine ops_val (ex_move rfl) ?_
    refine ops_test (ex_lss rfl rfl) (fun hp24 => ?_) (fun hp24 => ?_)
    · have hql : q < nn := by omega
      have hqx : q < x.length := by omega
      refine ops_val (ex_move rfl) ?_
      refine nO55 ?_
      refine ops_yes rfl ?_
      refine ops_val (ex_move rfl) ?_
      refine ops_yes rfl ?_
      have hk := more_w gp g cap sp s1 _ (Hp.less (es := vw gp g cap sp s1) (R := [(some go, U, cs)]) H2).here
      refine ops_call_val (ex_call gf80 rfl) hk ?_
      intro w3 Hd
      have H3 := Hp.front (R := [(some go, U, cs)]) H2 Hd
      refine ops_val (ex_pick_t rfl rfl) ?_
      refine ops_nil ?_
      refine nR55 ?_
      refine run_cond rfl (fun hb28 => ?_) (fun hb28 => ?_)
      · have hmo : ¬ (s1.long = true ∨ 65536 < s1.out.length) := by simpa using hb28
        refine run_skip ?_
        refine run_seq ?_
        refine run_block ?_
        refine run_seq ?_
        refine run_region ?_
        obtain ⟨pa, hpa⟩ := hrd.some_ (by omega)
        subst hpa
        have hpb := hap (by omega) pa rfl
        have hln : ((cells.drop (q * 11)).take 11).length = 11 := elem_len hrd hqx
        refine ops_alloc ty71 H3 ?_
        intro w4 gv H4 hgv
        refine ops_nil ?_
        refine nR55 ?_
        refine run_seq ?_
        refine run_seq ?_
        refine run_region ?_
        refine ops_val (ex_move rfl) ?_
        refine ops_val (ex_nilCheck rfl) ?_
        refine ops_val (ex_fieldAddr fl51_1 rfl) ?_
        refine ops_val (ex_load ty49 rfl (H4.cell (i := 0) rfl rfl)) ?_
        refine nO55 ?_
        refine ops_true (ex_eql_nil_ptr Tryz.underlying49 rfl) (rfl) ?_
        refine ops_nil ?_
        refine nR55 ?_
        refine run_cond_true rfl ?_
        refine run_region ?_
        refine ops_val (ex_move rfl) ?_
        refine ops_val (ex_move rfl) ?_
        refine ops_val (ex_idx Tryz.underlying24 ty71 rfl rfl rfl hqx rfl) ?_
        refine ops_val (ex_loadN ty71 rfl (vs := ((cells.drop (q * 11)).take 11)) hln ((elem_cl hrd hqx hpb).to H4).cell) ?_
        refine nO55 ?_
        refine ops_store ty71 H4 3 rfl rfl rfl rfl hln (by rw [hln]; decide) (thwait.ones (hel q hqx)) ?_
        intro w5 H5
        have hpu : putAt [.int .i64 0, .int .i64 0, .int .i64 0, .int .i64 0, .int .i64 0, .int .i64 0, .string .empty, .string .empty, .int .i64 0, .int .i64 0, .int .i64 0] 0 ((cells.drop (q * 11)).take 11) = ((cells.drop (q * 11)).take 11) := putAt_all hln
        rw [hpu] at H5
        refine ops_nil ?_
        refine nR55 ?_
        refine run_seq ?_
        refine run_region ?_
        refine ops_val (ex_move rfl) ?_
        have HX : Hp w0 w5 (bl (vwo gp g0 cap0 sp0 st go U cs)) (vwo gp g cap sp s1 gv 71 ((cells.drop (q * 11)).take 11) ++ [(some go, U, cs)]) := H5.pick [0, 1, 3, 2] (by decide)
        have hMq := thwait.to (hel q hqx) HX.less (fun _ h => h)
        refine ops_call (ex_call gf83 rfl) (vwait_W gp gv 0 g cap sp s1 71 _ x[q] _ _ 65536 (wl thwait x q a) HX.less.here (by decide) ⟨hP.1, hP.2, hP.3, by omega⟩ hA (thwait.mono hMq fun _ h => h.2) (At.self _)) ?_
        rintro _ w6 ⟨s2, g, cap, sp, hA2, hP2, Hd⟩
        have H6 := (HX.front Hd).pick [0, 1, 3] (by decide)
        refine ops_nil ?_
        refine nR55 ?_
        refine run_seq ?_
        refine run_region ?_
        refine ops_val (ex_move rfl) ?_
        refine ops_val (ex_nilCheck rfl) ?_
        refine ops_val (ex_fieldAddr fl51_1 rfl) ?_
        refine ops_val (ex_load ty49 rfl (H6.cell (i := 0) rfl rfl)) ?_
        refine nO55 ?_
        refine ops_false (ex_neq_nil_ptr Tryz.underlying49 rfl) (by simp) ?_
        refine ops_nil ?_
        refine nR55 ?_
        refine run_cond_false rfl ?_
        refine run_skip ?_
        refine run_nil (blk_normal ?_)
        refine run_region ?_
        refine ops_val (ex_move rfl) ?_
        refine ops_val (ex_add rfl rfl (IntWalk.i64_in _ (by omega))) ?_
        refine ops_val (ex_assign rfl) ?_
        refine ops_nil ?_
        refine nR55 ?_
        refine run_nil (rnd_normal ?_)
        exact ⟨nn - (q + 1), by omega, q + 1, _, s2, g, cap, sp, rfl, (fs (fs (fn (fn (fs (fs (fs (fn (fn (fn (fn (fn (fn (fn (fn (fn (fn (fn (fn (fn (fn (fn (fn (fn (fn (fn (fn (fn (fn (fn (fn (fn (fn (fn (fn (fn (fn (fn (fn (fn (fn (fn (fn (fn (fn (fn (fn (fn (fn (fn (fn (fn (fn (fn (fn f0))))))))))))))))))))))))))))))))))))))))))))))))))))))), rfl, by omega, by rw [wl_succ hqx]; exact hA2, hP2.mono (show 65536 + 720995 ≤ m + 852076 by omega), H6⟩
      · have hmo : s1.long = true ∨ 65536 < s1.out.length := by
          have h := of_decide_eq_false hb28
          exact Classical.not_not.1 h
        refine run_exit ?_
        refine rnd_exit ?_
        refine blk_exit ?_
        refine run_nil ?_
        refine fin_end0 rfl ?_
        have e : wAll ((Th.many thwait false).fl x) a = wl thwait x q a := wl_stop false ((alike_out hA).1 hmo)
        rw [e]
        exact ⟨s1, g, cap, sp, hA, hP, H3⟩
    · have hqm : q = nn := by omega
      subst hqm
      refine ops_val (ex_move rfl) ?_
      refine nO55 ?_
      refine ops_no rfl ?_
      refine ops_no rfl ?_
      refine ops_val (ex_pick_f rfl rfl) ?_
      refine ops_nil ?_
      refine nR55 ?_
      refine run_cond_false rfl ?_
      refine run_exit ?_
      refine rnd_exit ?_
      refine blk_exit ?_
      refine run_nil ?_
      refine fin_end0 rfl ?_
      have e : wAll ((Th.many thwait false).fl x) a = wl thwait x q a := by
        by_cases hc : st.long = true ∨ 1024 < x.length
        · rw [if_pos hc] at hnn
          subst hnn
          exact wl_stop false (hlg hc)
        · rw [if_neg hc] at hnn
          subst hnn
          exact (wl_all thwait false x a).symm
      rw [e]
      exact ⟨s1, g, cap, sp, hA, hP, H2⟩
theorem vlwait_W : WalkW Tryz.prog 51 (Th.many thwait false) := vlwait_w
set_option maxRecDepth 100000 in
set_option maxHeartbeats 4000000 in
theorem vlwait_r (gp gr : Nat) (gb : Option Nat) (cb : Nat) (sb : List Value) (b : List UInt8) (hcb : b.length ≤ cb) (hbl : b.length ≤ 65536) (go o i e : Nat) (U : TypeId) (cs : List Value) (w0 : World) (H0 : Hp w0 w0 (bl (vr gp gr gb cb sb b i e ++ [(some go, U, cs)])) (vr gp gr gb cb sb b i e ++ [(some go, U, cs)])) (hi : i ≤ b.length) (hat : At cs o (Th.many thwait false).zs) (hfit : o + (Th.many thwait false).sz ≤ cs.length) :
    Does Tryz.prog 51 #[.pointer (some ⟨gp, 0, none⟩), .pointer (some ⟨go, o, none⟩)] w0 (fun _ w' => RdOut (vr gp gr gb cb sb b) (Th.many thwait false) go o U cs b i e w0.heap.size w0 (bl (vr gp gr gb cb sb b i e ++ [(some go, U, cs)])) w') := by
  refine does_of Tryz.func51 Tryz.ntmps51 rfl ?_
  refine nR55 ?_
  have H := H0
  change o + 1 ≤ cs.length at hfit
  have hcq : cs[o]? = some (Value.slice none 0 0) := by have := hat 0 _ rfl; rwa [Nat.add_zero] at this
  have hrow : putAt cs o [Value.slice none 0 0] = cs := putAt_same hat (by simpa using hfit)
  refine run_seq ?_
  refine run_region ?_
  refine ops_val (ex_move rfl) ?_
  refine ops_val (ex_nilCheck rfl) ?_
  refine ops_val (ex_load ty24 rfl (H.cell (i := 3) rfl hcq)) ?_
  refine ops_val (ex_assign rfl) ?_
  refine ops_nil ?_
  refine nR55 ?_
  refine run_seq ?_
  refine run_region ?_
  refine ops_val (ex_move rfl) ?_
  refine ops_val (ex_move rfl) ?_
  refine ops_val (ex_len_slice Tryz.underlying24 rfl) ?_
  obtain ⟨⟨nn, ic, ec⟩, hcn⟩ : ∃ s, countStep b 1024 i e = s := ⟨_, rfl⟩
  have hcb2 := countStep_le (b := b) (most := 1024) (i := i) (e := e) hi
  have hic := hcb2.1
  have hn3 := hcb2.2.2.1
  rw [hcn] at hic hn3
  simp only at hic hn3
  have hnn : nn ≤ 1024 := by have : ((nn : Nat) : Int) ≤ max 1024 0 := hn3; omega
  have hmr : (Th.many thwait false).rd b i e = rdN thwait b nn ic ec := by
    show rdN thwait b (countStep b 1024 i e).1 (countStep b 1024 i e).2.1 (countStep b 1024 i e).2.2 = _
    rw [hcn]
  have hk := many_r gp gr gb cb sb b i e _ (Hp.less (es := vr gp gr gb cb sb b i e) (R := [(some go, U, cs)]) H).here hcb hbl hi
  rw [hcn] at hk
  refine ops_call_val (ex_call gf79 rfl) hk ?_
  intro w1 Hd
  have HN0 := Hp.front (R := [(some go, U, cs)]) H Hd
  have H1 := HN0
  refine nO55 ?_
  refine ops_val (ex_assign rfl) ?_
  refine ops_nil ?_
  refine nR55 ?_
  refine run_seq ?_
  refine run_seq ?_
  refine run_region ?_
  refine ops_val (ex_move rfl) ?_
  refine ops_val (ex_nilCheck rfl) ?_
  refine ops_val (ex_fieldAddr fl51_1 rfl) ?_
  refine ops_val (ex_load ty49 rfl (H1.cell (i := 0) rfl rfl)) ?_
  refine nO55 ?_
  refine ops_true (ex_neq_nil_ptr Tryz.underlying49 rfl) (by simp) ?_
  refine ops_nil ?_
  refine nR55 ?_
  refine run_cond_true rfl ?_
  refine run_region ?_
  refine ops_val (ex_move rfl) ?_
  refine ops_val (ex_nilCheck rfl) ?_
  have hset : cs.set o (Value.slice none 0 0) = putAt cs o [Value.slice none 0 0] := (putAt_one (by omega)).symm
  refine ops_store1 ty24 H1 3 rfl rfl rfl rfl (by omega) rfl ?_
  intro w2 HN0
  have H2 : Hp w0 w2 (bl (vr gp gr gb cb sb b i e ++ [(some go, U, cs)])) (vr gp gr gb cb sb b ic ec ++ [(some go, U, putAt cs o [Value.slice none 0 0])]) := by rw [← hset]; exact HN0
  refine ops_nil ?_
  refine nR55 ?_
  refine run_seq ?_
  refine run_region ?_
  refine ops_val (ex_assign rfl) ?_
  refine ops_nil ?_
  refine nR55 ?_
  refine run_block ?_
  refine run_loop (fun n l w => ∃ (q : Nat) (y : Int) (i1 e1 : Nat) (xs : List thwait.X) (uc spl : List Value) (gl : Option Nat) (capl : Nat), nn - q = n ∧ Fits [some (.pointer (some ⟨gp, 0, none⟩)), some (.pointer (some ⟨go, o, none⟩)), none, none, none, some (.int .i64 (nn : Int)), some (.int .i64 y), none, none, none, none, none, none, none, none, none, none, none, none, none, none, none, none, none, none, none, none, none, none, none, none, none, none, none, none, none, none, none, none, none, none, none, none, none, none, none, none, none, none, none, none, none, none, none, none] l ∧ y = q ∧ q ≤ nn ∧ xs.length = q ∧ rdN thwait b nn ic ec = (xs ++ (rdN thwait b (nn - q) i1 e1).1, (rdN thwait b (nn - q) i1 e1).2) ∧ i1 ≤ b.length ∧ uc.length = q * 11 ∧ uc.all (·.oneCell') = true ∧ q ≤ capl ∧ capl * 11 ≤ (uc ++ spl).length ∧ (gl = none → capl = 0) ∧ Hp w0 w (bl (vr gp gr gb cb sb b i e ++ [(some go, U, cs)])) ((vr gp gr gb cb sb b i1 e1 ++ [(some go, U, putAt cs o [Value.slice (hd gl) q capl])]) ++ [(gl, 71, uc ++ spl)]) ∧ (e1 = 0 → ∀ j (hj : j < xs.length), thwait.M w (Fr w w0.heap.size ((vr gp gr gb cb sb b i1 e1 ++ [(some go, U, putAt cs o [Value.slice (hd gl) q capl])]) ++ [(gl, 71, uc ++ spl)])) xs[j] ((uc.drop (j * 11)).take 11))) (nn) ?_ ?_
  · exact ⟨0, _, ic, ec, [], [], [], none, 0, rfl, (fs (fs (fn (fn (fn (fs (fs (fn (fn (fn (fn (fn (fn (fn (fn (fn (fn (fn (fn (fn (fn (fn (fn (fn (fn (fn (fn (fn (fn (fn (fn (fn (fn (fn (fn (fn (fn (fn (fn (fn (fn (fn (fn (fn (fn (fn (fn (fn (fn (fn (fn (fn (fn (fn (fn f0))))))))))))))))))))))))))))))))))))))))))))))))))))))), rfl, Nat.zero_le _, rfl, rfl, hic, rfl, rfl, Nat.le_refl _, Nat.zero_le _, fun _ => rfl, (H2.nil 71), fun _ j hj => by cases hj⟩
  · rintro n l w3 ⟨q, y, i1, e1, xs, uc, spl, gl, capl, rfl, hfit, rfl, hq, hxs, hrd, hi1, hul, huo, hqc, hcl, hgl, H3, hel⟩
    obtain ⟨j, rfl⟩ := hfit.open
    refine nR55 ?_
    clear hfit
    refine run_seq ?_
    refine run_seq ?_
    refine run_region ?_
    refine ops_val (ex_move rfl) ?_
    refine ops_val (ex_move rfl) ?_
    refine ops_test (ex_lss rfl rfl) (fun hp24 => ?_) (fun hp24 => ?_)
    · have hql : q < nn := by omega
      refine ops_val (ex_move rfl) ?_
      refine nO55 ?_
      refine ops_yes rfl ?_
      refine ops_val (ex_move rfl) ?_
      refine ops_yes rfl ?_
      have HZ : Hp w0 w3 (bl (vr gp gr gb cb sb b i e ++ [(some go, U, cs)])) (vr gp gr gb cb sb b i1 e1 ++ [(some go, U, putAt cs o [Value.slice (hd gl) q capl]), (gl, 71, uc ++ spl)]) := H3
      have hk := more_r gp gr gb cb sb b i1 e1 _ (Hp.less (es := vr gp gr gb cb sb b i1 e1) HZ).here
      refine ops_call_val (ex_call gf80 rfl) hk ?_
      intro w4 Hd
      replace hel := fun h0 j hj => Fr.to (hel h0 j hj) (Hp.front (R := [(some go, U, putAt cs o [Value.slice (hd gl) q capl]), (gl, 71, uc ++ spl)]) HZ.here Hd)
      have H4 := Hp.front HZ Hd
      refine ops_val (ex_pick_t rfl rfl) ?_
      refine ops_nil ?_
      refine nR55 ?_
      refine run_cond rfl (fun hb28 => ?_) (fun hb28 => ?_)
      · have he1 : e1 = 0 := by simpa using hb28
        refine run_skip ?_
        refine run_seq ?_
        refine run_block ?_
        refine run_seq ?_
        refine run_region ?_
        have HB := H4
        replace H4 := HB.here
        refine ops_alloc ty71 H4 ?_
        intro w5 gx H5 hgx
        refine ops_nil ?_
        refine nR55 ?_
        refine run_seq ?_
        refine run_seq ?_
        refine run_region ?_
        refine ops_val (ex_move rfl) ?_
        refine ops_val (ex_nilCheck rfl) ?_
        refine ops_val (ex_fieldAddr fl51_1 rfl) ?_
        refine ops_val (ex_load ty49 rfl (H5.cell (i := 0) rfl rfl)) ?_
        refine nO55 ?_
        refine ops_false (ex_eql_nil_ptr Tryz.underlying49 rfl) (by simp) ?_
        refine ops_nil ?_
        refine nR55 ?_
        refine run_cond_false rfl ?_
        refine run_skip ?_
        refine run_seq ?_
        refine run_region ?_
        refine ops_val (ex_move rfl) ?_
        have HX : Hp _ w5 _ ((vr gp gr gb cb sb b i1 e1 ++ [(some gx, 71, [.int .i64 0, .int .i64 0, .int .i64 0, .int .i64 0, .int .i64 0, .int .i64 0, .string .empty, .string .empty, .int .i64 0, .int .i64 0, .int .i64 0])]) ++ [(some go, U, putAt cs o [Value.slice (hd gl) q capl]), (gl, 71, uc ++ spl)]) := H5.pick [0, 1, 2, 5, 3, 4] (by decide)
        obtain ⟨⟨xv, i2, e2⟩, hx⟩ : ∃ s, thwait.rd b i1 e1 = s := ⟨_, rfl⟩
        have hi2 : i2 ≤ b.length := by have := thwait.le (b := b) (e := e1) hi1; rw [hx] at this; exact this
        refine ops_call (ex_call gf83 rfl) (vwait_R gp gr gb cb sb b hcb hbl gx 0 i1 e1 71 _ _ HX.less.here hi1 (At.self _) (Nat.le_refl _)) ?_
        rintro _ w6 ⟨us, hus, huno, Hd, hMx⟩
        rw [hx] at Hd hMx
        simp only at Hd hMx
        have hpu : putAt [.int .i64 0, .int .i64 0, .int .i64 0, .int .i64 0, .int .i64 0, .int .i64 0, .string .empty, .string .empty, .int .i64 0, .int .i64 0, .int .i64 0] 0 us = us := putAt_all hus
        rw [hpu] at Hd hMx
        have hnsz := Nat.le_trans HB.size HX.size
        have HC := HX.front Hd
        replace hMx := fun h0 => thwait.mono (ok' := Fr w6 w0.heap.size ((vr gp gr gb cb sb b i2 e2 ++ [(some gx, 71, us)]) ++ [(some go, U, putAt cs o [Value.slice (hd gl) q capl]), (gl, 71, uc ++ spl)])) (hMx h0) (fun p hp => ⟨by have := hp.1; omega, fun hq => by
          rw [bl_append] at hq
          rcases List.mem_append.1 hq with hq | hq
          · exact hp.2.1 hq
          · have h1 := bl_lt HX (b := p) (by rw [bl_append]; exact List.mem_append_right _ hq)
            have := hp.1
            omega, hp.2.2⟩)
        replace hel := fun h0 j hj => Fr.to (hel h0 j hj) HC
        have H6 := HC.here
        refine ops_nil ?_
        refine nR55 ?_
        refine run_seq ?_
        refine run_region ?_
        refine ops_val (ex_move rfl) ?_
        refine ops_val (ex_nilCheck rfl) ?_
        refine ops_val (ex_fieldAddr fl51_1 rfl) ?_
        refine ops_val (ex_load ty49 rfl (H6.cell (i := 0) rfl rfl)) ?_
        refine nO55 ?_
        refine ops_true (ex_neq_nil_ptr Tryz.underlying49 rfl) (by simp) ?_
        refine ops_nil ?_
        refine nR55 ?_
        refine run_cond_true rfl ?_
        refine run_mixZ 8 [(true, 0), (true, 1), (true, 2), (true, 3), (true, 4), (false, 5), (false, 6), (true, 7), (false, 8)] H6 [0, 1, 2, 3, 4] mixed (by decide) (by kernel_rfl) ?_
        rintro w7 hw7
        have H7 := Hp.drew H6; rw [← hw7] at H7
        refine mixz_p rfl ?_
        refine mix1_val (fun wz hz => ex_move rfl) ?_
        refine mixz_p rfl ?_
        refine mix1_val (fun wz hz => ex_move rfl) ?_
        refine mixz_p rfl ?_
        refine mix1_val (fun wz hz => ex_nilCheck rfl) ?_
        refine mixz_p rfl ?_
        refine mix1_val (fun wz hz => ex_load ty24 rfl (hz.cell (i := 4) rfl (show (putAt cs o [Value.slice (hd gl) q capl])[o]? = some (Value.slice (hd gl) q capl) from by rw [putAt_get (by simpa using hfit), if_neg (by omega), if_pos (by simp)]; simp))) ?_
        refine nZ55 ?_
        refine mixz_p rfl ?_
        refine mix1_val (fun wz hz => ex_loadN ty71 rfl (vs := us) hus (hz.cells (i := 3) rfl)) ?_
        refine mixz_o rfl ?_
        refine ops_build1 Tryz.underlying24 ty71 H7 rfl rfl hus (by decide) ?_
        intro w8 gn H8 hgn
        refine ops_nil ?_
        refine ⟨fun hne => H8.pick [0, 1, 2, 3, 4] (by decide), ?_⟩
        refine nZ55 ?_
        refine mixz_o rfl ?_
        refine ops_append Tryz.underlying24 ty71 (by decide) H8 5 (g := gl) (xs := uc) (sp := spl) rfl rfl hul hcl hqc hgl rfl (H8.rd (i := 6) (o := some gn) (xs := us) (sp := []) (by rw [List.append_nil]; rfl) (by rw [hus, Nat.one_mul]; rfl) (by decide)) huno (by omega) (by omega) (by decide) ?_
        intro w9 gl2 capl2 spl2 H9 hcl2 hqc2 hgl2
        refine ops_nil ?_
        refine ⟨fun hne => H9.pick [0, 1, 2, 3, 4] (by decide), ?_⟩
        refine nZ55 ?_
        refine mixz_p rfl ?_
        refine mix1_val (fun wz hz => ex_nilCheck rfl) ?_
        refine mixz_o rfl ?_
        refine ops_store1 ty24 H9 4 rfl rfl rfl rfl (by rw [putAt_len (by simpa using hfit)]; omega) rfl ?_
        intro w10 HS0
        have hset2 : (putAt cs o [Value.slice (hd gl) q capl]).set o (Value.slice (hd gl2) (q + 1) capl2) = putAt cs o [Value.slice (hd gl2) (q + 1) capl2] := by
          apply List.ext_getElem?
          intro j
          rw [List.getElem?_set, putAt_len (by simpa using hfit), putAt_get (by simpa using hfit), putAt_get (by simpa using hfit)]
          by_cases hj : o = j
          · subst hj; rw [if_pos rfl, if_pos (by omega), if_neg (by omega), if_pos (by simp)]; simp
          · rw [if_neg hj]
            split
            · rfl
            · rw [if_neg (by simp; omega), if_neg (by simp; omega)]
        have H10 := HS0
        refine ops_nil ?_
        refine ⟨fun hne => absurd rfl hne, ?_⟩
        refine nZ55 ?_
        refine mixz_nil ?_
        refine nR55 ?_
        refine run_nil (blk_normal ?_)
        refine run_region ?_
        refine ops_val (ex_move rfl) ?_
        refine ops_val (ex_add rfl rfl (IntWalk.i64_in _ (by omega))) ?_
        refine ops_val (ex_assign rfl) ?_
        refine ops_nil ?_
        refine nR55 ?_
        refine run_nil (rnd_normal ?_)
        have h1 := H10.pick [0, 1, 2, 4, 5] (by decide)
        rw [hset2] at h1
        have HR := (show ∀ (wa wb : World) (SS : List Nat), Hp wa wb SS ((vr gp gr gb cb sb b i2 e2 ++ [(some go, U, putAt cs o [Value.slice (hd gl2) (q + 1) capl2])]) ++ [(gl2, 71, (uc ++ us) ++ spl2)]) → Hp wa wb SS ((vr gp gr gb cb sb b i2 e2 ++ [(some go, U, putAt cs o [Value.slice (hd gl2) (q + 1) capl2])]) ++ [(gl2, 71, (uc ++ us) ++ spl2)]) from fun _ _ _ h => h) _ _ _ h1
        refine ⟨nn - (q + 1), by omega, q + 1, _, i2, e2, xs ++ [xv], uc ++ us, spl2, gl2, capl2, rfl, (fs (fs (fn (fn (fn (fs (fs (fn (fn (fn (fn (fn (fn (fn (fn (fn (fn (fn (fn (fn (fn (fn (fn (fn (fn (fn (fn (fn (fn (fn (fn (fn (fn (fn (fn (fn (fn (fn (fn (fn (fn (fn (fn (fn (fn (fn (fn (fn (fn (fn (fn (fn (fn (fn (fn f0))))))))))))))))))))))))))))))))))))))))))))))))))))))), rfl, by omega, by simp [hxs], ?_, hi2, by rw [List.length_append, hul, hus]; show q * 11 + 11 = (q + 1) * 11; omega, by rw [List.all_append, huo, huno]; rfl, hqc2, hcl2, hgl2, (HB.all HC).all HR, ?_⟩
        · rw [hrd, rdN_step hql he1 hx, List.append_assoc]; rfl
        · intro h0 j hj
          simp only [List.length_append, List.length_cons, List.length_nil] at hj
          by_cases hjq : j < xs.length
          · rw [List.getElem_append_left hjq]
            have hd1 : ((uc ++ us).drop (j * 11)).take 11 = (uc.drop (j * 11)).take 11 := by
              have h1 : (j + 1) * 11 ≤ q * 11 := Nat.mul_le_mul_right _ (by omega)
              rw [List.drop_append_of_le_length (by omega), List.take_append_of_le_length (by rw [List.length_drop]; omega)]
            rw [hd1]
            exact Fr.to (hel he1 j hjq) HR
          · have hjj : j = xs.length := by omega
            subst hjj
            rw [List.getElem_append_right (Nat.le_refl _)]
            have hd2 : ((uc ++ us).drop (xs.length * 11)).take 11 = us := by
              rw [hxs, ← hul, List.drop_left]
              exact List.take_of_length_le (Nat.le_of_eq hus)
            simp only [Nat.sub_self, List.getElem_cons_zero]
            rw [hd2]
            exact Fr.to (hMx h0) HR
      · have he1 : e1 ≠ 0 := by simpa using hb28
        refine run_exit ?_
        refine rnd_exit ?_
        refine blk_exit ?_
        refine run_nil ?_
        refine fin_end0 rfl ?_
        have hrw : (Th.many thwait false).rd b i e = (xs, i1, e1) := by rw [hmr, hrd]; first | (rw [rdN_bad _ _ _ he1]; simp) | (simp [rdN])
        unfold RdOut
        rw [hrw]
        have HF : Hp w0 w4 _ ((vr gp gr gb cb sb b i1 e1 ++ [(some go, U, putAt cs o [Value.slice (hd gl) q capl])]) ++ [(gl, 71, uc ++ spl)]) := H4
        refine ⟨[Value.slice (hd gl) q capl], rfl, rfl, HF.less, fun h0 => ⟨hd gl, capl, uc, by rw [hxs], ⟨by rw [hxs]; omega, fun _ => by decide⟩, by rw [hxs]; exact HF.rd (i := 4) (o := gl) (xs := uc) (sp := spl) rfl hul (by decide), fun _ p hp => ⟨place_new HF rfl (i := 0) rfl p hp, row_apart HF (i := 0) rfl p hp, HF.tw (i := 4) rfl p hp⟩, fun _ _ p hp => HF.tw (i := 4) rfl p hp, fun j hj => thwait.mono (hel h0 j hj) (fun p hp => ⟨hp.1, fun hq => hp.2.1 (show p ∈ bl ((vr gp gr gb cb sb b i1 e1 ++ [(some go, U, putAt cs o [Value.slice (hd gl) q capl])]) ++ [(gl, 71, uc ++ spl)]) from bl_left hq), hp.2.2⟩)⟩⟩
    · have hqm : q = nn := by omega
      subst hqm
      refine ops_val (ex_move rfl) ?_
      refine nO55 ?_
      refine ops_no rfl ?_
      refine ops_no rfl ?_
      refine ops_val (ex_pick_f rfl rfl) ?_
      refine ops_nil ?_
      refine nR55 ?_
      refine run_cond_false rfl ?_
      refine run_exit ?_
      refine rnd_exit ?_
      refine blk_exit ?_
      refine run_nil ?_
      refine fin_end0 rfl ?_
      have hrw : (Th.many thwait false).rd b i e = (xs, i1, e1) := by rw [hmr, hrd]; first | (rw [rdN_bad _ _ _ he1]; simp) | (simp [rdN])
      unfold RdOut
      rw [hrw]
      have HF : Hp w0 w3 _ ((vr gp gr gb cb sb b i1 e1 ++ [(some go, U, putAt cs o [Value.slice (hd gl) q capl])]) ++ [(gl, 71, uc ++ spl)]) := H3
      refine ⟨[Value.slice (hd gl) q capl], rfl, rfl, HF.less, fun h0 => ⟨hd gl, capl, uc, by rw [hxs], ⟨by rw [hxs]; omega, fun _ => by decide⟩, by rw [hxs]; exact HF.rd (i := 4) (o := gl) (xs := uc) (sp := spl) rfl hul (by decide), fun _ p hp => ⟨place_new HF rfl (i := 0) rfl p hp, row_apart HF (i := 0) rfl p hp, HF.tw (i := 4) rfl p hp⟩, fun _ _ p hp => HF.tw (i := 4) rfl p hp, fun j hj => thwait.mono (hel h0 j hj) (fun p hp => ⟨hp.1, fun hq => hp.2.1 (show p ∈ bl ((vr gp gr gb cb sb b i1 e1 ++ [(some go, U, putAt cs o [Value.slice (hd gl) q capl])]) ++ [(gl, 71, uc ++ spl)]) from bl_left hq), hp.2.2⟩)⟩⟩
theorem vlwait_R : WalkR Tryz.prog 51 (Th.many thwait false) := vlwait_r
set_option maxRecDepth 100000 in
set_option maxHeartbeats 4000000 in
theorem vldeal_w (gp go o : Nat) (g0 : Option Nat) (cap0 : Nat) (sp0 : List Value) (st : WS) (U : TypeId) (cs : List Value) (x : List thdeal.X) (vs : List Value) (w0 : World) (m : Nat) (a : WS) (H0 : Hp w0 w0 (bl (vwo gp g0 cap0 sp0 st go U cs)) (vwo gp g0 cap0 sp0 st go U cs)) (hm : m + (Th.many thdeal false).mx ≤ 1000000000) (hP : POk m g0 cap0 sp0 st) (ha : Alike a st) (hM : (Th.many thdeal false).M w0 (fun b => b ∉ bl (vwo gp g0 cap0 sp0 st go U cs)) x vs) (hat : At cs o vs) :
    Does Tryz.prog 52 #[.pointer (some ⟨gp, 0, none⟩), .pointer (some ⟨go, o, none⟩)] w0 (fun _ w' => VwOut (m + (Th.many thdeal false).mx) gp (wAll ((Th.many thdeal false).fl x) a) go U cs w0 (bl (vwo gp g0 cap0 sp0 st go U cs)) w') := by
  refine does_of Tryz.func52 Tryz.ntmps52 rfl ?_
  refine nR55 ?_
  have H := H0
  change m + 655441 ≤ 1000000000 at hm
  obtain ⟨B, c, cells, rfl, hz, hrd, hap, ht, hel⟩ := hM
  have hcq : cs[o]? = some (.slice B x.length c) := by have := hat 0 _ rfl; rwa [Nat.add_zero] at this
  refine run_seq ?_
  refine run_region ?_
  refine ops_val (ex_move rfl) ?_
  refine ops_val (ex_nilCheck rfl) ?_
  refine ops_val (ex_load ty25 rfl (H.cell (i := 2) rfl hcq)) ?_
  refine ops_val (ex_assign rfl) ?_
  refine ops_nil ?_
  refine nR55 ?_
  refine run_seq ?_
  refine run_region ?_
  refine ops_val (ex_move rfl) ?_
  refine ops_val (ex_move rfl) ?_
  refine ops_val (ex_len_slice Tryz.underlying25 rfl) ?_
  have hA1 : Alike (wl thdeal x 0 a) (vFld (.count x.length) st) := alike_fld _ ha
  have hlg : (st.long = true ∨ 1024 < x.length) → (wl thdeal x 0 a).long = true := fun h => (alike_out hA1).1 (.inl (by
    have : vFld (.count x.length) st = ⟨st.out, true⟩ := vFld_count_long (h.imp id (fun h => by simp [tooLong]; omega))
    rw [this]))
  have hk := many_w gp g0 cap0 sp0 st x.length _ (Hp.less (es := vw gp g0 cap0 sp0 st) (R := [(some go, U, cs)]) H).here m (by omega) hP (by have := hz.1; omega)
  refine ops_call (ex_call gf79 rfl) hk ?_
  rintro _ w1 ⟨g, cap, sp, rfl, hP1, Hd⟩
  obtain ⟨nn, hnn⟩ : ∃ nn, (if st.long = true ∨ 1024 < x.length then 0 else x.length) = nn := ⟨_, rfl⟩
  rw [hnn]
  have hnx : nn ≤ x.length := by split at hnn <;> omega
  have H1 := Hp.front (R := [(some go, U, cs)]) H Hd
  refine nO55 ?_
  refine ops_val (ex_assign rfl) ?_
  refine ops_nil ?_
  refine nR55 ?_
  refine run_seq ?_
  refine run_seq ?_
  refine run_region ?_
  refine ops_val (ex_move rfl) ?_
  refine ops_val (ex_nilCheck rfl) ?_
  refine ops_val (ex_fieldAddr fl51_1 rfl) ?_
  refine ops_val (ex_load ty49 rfl (H1.cell (i := 0) rfl rfl)) ?_
  refine nO55 ?_
  refine ops_false (ex_neq_nil_ptr Tryz.underlying49 rfl) (by simp) ?_
  refine ops_nil ?_
  refine nR55 ?_
  refine run_cond_false rfl ?_
  refine run_skip ?_
  refine run_seq ?_
  refine run_region ?_
  refine ops_val (ex_assign rfl) ?_
  refine ops_nil ?_
  refine nR55 ?_
  refine run_block ?_
  refine run_loop (fun n l w => ∃ (q : Nat) (y : Int) (s1 : WS) (g : Option Nat) (cap : Nat) (sp : List Value), nn - q = n ∧ Fits [some (.pointer (some ⟨gp, 0, none⟩)), some (.pointer (some ⟨go, o, none⟩)), none, none, some (.slice B x.length c), some (.int .i64 (nn : Int)), some (.int .i64 y), none, none, none, none, none, none, none, none, none, none, none, none, none, none, none, none, none, none, none, none, none, none, none, none, none, none, none, none, none, none, none, none, none, none, none, none, none, none, none, none, none, none, none, none, none, none, none, none] l ∧ y = q ∧ q ≤ nn ∧ Alike (wl thdeal x q a) s1 ∧ POk (m + 655441) g cap sp s1 ∧ Hp w0 w (bl (vwo gp g0 cap0 sp0 st go U cs)) (vwo gp g cap sp s1 go U cs)) (nn) ?_ ?_
  · exact ⟨0, _, _, g, cap, sp, rfl, (fs (fs (fn (fn (fs (fs (fs (fn (fn (fn (fn (fn (fn (fn (fn (fn (fn (fn (fn (fn (fn (fn (fn (fn (fn (fn (fn (fn (fn (fn (fn (fn (fn (fn (fn (fn (fn (fn (fn (fn (fn (fn (fn (fn (fn (fn (fn (fn (fn (fn (fn (fn (fn (fn (fn f0))))))))))))))))))))))))))))))))))))))))))))))))))))))), rfl, Nat.zero_le _, hA1, hP1.mono (by omega), H1⟩
  · rintro n l w2 ⟨q, y, s1, g, cap, sp, rfl, hfit, rfl, hq, hA, hP, H2⟩
    obtain ⟨j, rfl⟩ := hfit.open
    refine nR55 ?_
    clear hfit
    refine run_seq ?_
    refine run_seq ?_
    refine run_region ?_
    refine ops_val (ex_move rfl) ?_
    refine ops_val (ex_move rfl) ?_
    refine ops_test (ex_lss rfl rfl) (fun hp24 => ?_) (fun hp24 => ?_)
    · have hql : q < nn := by omega
      have hqx : q < x.length := by omega
      refine ops_val (ex_move rfl) ?_
      refine nO55 ?_
      refine ops_yes rfl ?_
      refine ops_val (ex_move rfl) ?_
      refine ops_yes rfl ?_
      have hk := more_w gp g cap sp s1 _ (Hp.less (es := vw gp g cap sp s1) (R := [(some go, U, cs)]) H2).here
      refine ops_call_val (ex_call gf80 rfl) hk ?_
      intro w3 Hd
      have H3 := Hp.front (R := [(some go, U, cs)]) H2 Hd
      refine ops_val (ex_pick_t rfl rfl) ?_
      refine ops_nil ?_
      refine nR55 ?_
      refine run_cond rfl (fun hb28 => ?_) (fun hb28 => ?_)
      · have hmo : ¬ (s1.long = true ∨ 65536 < s1.out.length) := by simpa using hb28
        refine run_skip ?_
        refine run_seq ?_
        refine run_block ?_
        refine run_seq ?_
        refine run_region ?_
        obtain ⟨pa, hpa⟩ := hrd.some_ (by omega)
        subst hpa
        have hpb := hap (by omega) pa rfl
        have hln : ((cells.drop (q * 8)).take 8).length = 8 := elem_len hrd hqx
        refine ops_alloc ty74 H3 ?_
        intro w4 gv H4 hgv
        refine ops_nil ?_
        refine nR55 ?_
        refine run_seq ?_
        refine run_seq ?_
        refine run_region ?_
        refine ops_val (ex_move rfl) ?_
        refine ops_val (ex_nilCheck rfl) ?_
        refine ops_val (ex_fieldAddr fl51_1 rfl) ?_
        refine ops_val (ex_load ty49 rfl (H4.cell (i := 0) rfl rfl)) ?_
        refine nO55 ?_
        refine ops_true (ex_eql_nil_ptr Tryz.underlying49 rfl) (rfl) ?_
        refine ops_nil ?_
        refine nR55 ?_
        refine run_cond_true rfl ?_
        refine run_region ?_
        refine ops_val (ex_move rfl) ?_
        refine ops_val (ex_move rfl) ?_
        refine ops_val (ex_idx Tryz.underlying25 ty74 rfl rfl rfl hqx rfl) ?_
        refine ops_val (ex_loadN ty74 rfl (vs := ((cells.drop (q * 8)).take 8)) hln ((elem_cl hrd hqx hpb).to H4).cell) ?_
        refine nO55 ?_
        refine ops_store ty74 H4 3 rfl rfl rfl rfl hln (by rw [hln]; decide) (thdeal.ones (hel q hqx)) ?_
        intro w5 H5
        have hpu : putAt [.int .i64 0, .int .i64 0, .string .empty, .string .empty, .int .i64 0, .int .i64 0, .int .i64 0, .int .i64 0] 0 ((cells.drop (q * 8)).take 8) = ((cells.drop (q * 8)).take 8) := putAt_all hln
        rw [hpu] at H5
        refine ops_nil ?_
        refine nR55 ?_
        refine run_seq ?_
        refine run_region ?_
        refine ops_val (ex_move rfl) ?_
        have HX : Hp w0 w5 (bl (vwo gp g0 cap0 sp0 st go U cs)) (vwo gp g cap sp s1 gv 74 ((cells.drop (q * 8)).take 8) ++ [(some go, U, cs)]) := H5.pick [0, 1, 3, 2] (by decide)
        have hMq := thdeal.to (hel q hqx) HX.less (fun _ h => h)
        refine ops_call (ex_call gf84 rfl) (vdeal_W gp gv 0 g cap sp s1 74 _ x[q] _ _ 65536 (wl thdeal x q a) HX.less.here (by decide) ⟨hP.1, hP.2, hP.3, by omega⟩ hA (thdeal.mono hMq fun _ h => h.2) (At.self _)) ?_
        rintro _ w6 ⟨s2, g, cap, sp, hA2, hP2, Hd⟩
        have H6 := (HX.front Hd).pick [0, 1, 3] (by decide)
        refine ops_nil ?_
        refine nR55 ?_
        refine run_seq ?_
        refine run_region ?_
        refine ops_val (ex_move rfl) ?_
        refine ops_val (ex_nilCheck rfl) ?_
        refine ops_val (ex_fieldAddr fl51_1 rfl) ?_
        refine ops_val (ex_load ty49 rfl (H6.cell (i := 0) rfl rfl)) ?_
        refine nO55 ?_
        refine ops_false (ex_neq_nil_ptr Tryz.underlying49 rfl) (by simp) ?_
        refine ops_nil ?_
        refine nR55 ?_
        refine run_cond_false rfl ?_
        refine run_skip ?_
        refine run_nil (blk_normal ?_)
        refine run_region ?_
        refine ops_val (ex_move rfl) ?_
        refine ops_val (ex_add rfl rfl (IntWalk.i64_in _ (by omega))) ?_
        refine ops_val (ex_assign rfl) ?_
        refine ops_nil ?_
        refine nR55 ?_
        refine run_nil (rnd_normal ?_)
        exact ⟨nn - (q + 1), by omega, q + 1, _, s2, g, cap, sp, rfl, (fs (fs (fn (fn (fs (fs (fs (fn (fn (fn (fn (fn (fn (fn (fn (fn (fn (fn (fn (fn (fn (fn (fn (fn (fn (fn (fn (fn (fn (fn (fn (fn (fn (fn (fn (fn (fn (fn (fn (fn (fn (fn (fn (fn (fn (fn (fn (fn (fn (fn (fn (fn (fn (fn (fn f0))))))))))))))))))))))))))))))))))))))))))))))))))))))), rfl, by omega, by rw [wl_succ hqx]; exact hA2, hP2.mono (show 65536 + 524360 ≤ m + 655441 by omega), H6⟩
      · have hmo : s1.long = true ∨ 65536 < s1.out.length := by
          have h := of_decide_eq_false hb28
          exact Classical.not_not.1 h
        refine run_exit ?_
        refine rnd_exit ?_
        refine blk_exit ?_
        refine run_nil ?_
        refine fin_end0 rfl ?_
        have e : wAll ((Th.many thdeal false).fl x) a = wl thdeal x q a := wl_stop false ((alike_out hA).1 hmo)
        rw [e]
        exact ⟨s1, g, cap, sp, hA, hP, H3⟩
    · have hqm : q = nn := by omega
      subst hqm
      refine ops_val (ex_move rfl) ?_
      refine nO55 ?_
      refine ops_no rfl ?_
      refine ops_no rfl ?_
      refine ops_val (ex_pick_f rfl rfl) ?_
      refine ops_nil ?_
      refine nR55 ?_
      refine run_cond_false rfl ?_
      refine run_exit ?_
      refine rnd_exit ?_
      refine blk_exit ?_
      refine run_nil ?_
      refine fin_end0 rfl ?_
      have e : wAll ((Th.many thdeal false).fl x) a = wl thdeal x q a := by
        by_cases hc : st.long = true ∨ 1024 < x.length
        · rw [if_pos hc] at hnn
          subst hnn
          exact wl_stop false (hlg hc)
        · rw [if_neg hc] at hnn
          subst hnn
          exact (wl_all thdeal false x a).symm
      rw [e]
      exact ⟨s1, g, cap, sp, hA, hP, H2⟩
theorem vldeal_W : WalkW Tryz.prog 52 (Th.many thdeal false) := vldeal_w
set_option maxRecDepth 100000 in
set_option maxHeartbeats 4000000 in
theorem vldeal_r (gp gr : Nat) (gb : Option Nat) (cb : Nat) (sb : List Value) (b : List UInt8) (hcb : b.length ≤ cb) (hbl : b.length ≤ 65536) (go o i e : Nat) (U : TypeId) (cs : List Value) (w0 : World) (H0 : Hp w0 w0 (bl (vr gp gr gb cb sb b i e ++ [(some go, U, cs)])) (vr gp gr gb cb sb b i e ++ [(some go, U, cs)])) (hi : i ≤ b.length) (hat : At cs o (Th.many thdeal false).zs) (hfit : o + (Th.many thdeal false).sz ≤ cs.length) :
    Does Tryz.prog 52 #[.pointer (some ⟨gp, 0, none⟩), .pointer (some ⟨go, o, none⟩)] w0 (fun _ w' => RdOut (vr gp gr gb cb sb b) (Th.many thdeal false) go o U cs b i e w0.heap.size w0 (bl (vr gp gr gb cb sb b i e ++ [(some go, U, cs)])) w') := by
  refine does_of Tryz.func52 Tryz.ntmps52 rfl ?_
  refine nR55 ?_
  have H := H0
  change o + 1 ≤ cs.length at hfit
  have hcq : cs[o]? = some (Value.slice none 0 0) := by have := hat 0 _ rfl; rwa [Nat.add_zero] at this
  have hrow : putAt cs o [Value.slice none 0 0] = cs := putAt_same hat (by simpa using hfit)
  refine run_seq ?_
  refine run_region ?_
  refine ops_val (ex_move rfl) ?_
  refine ops_val (ex_nilCheck rfl) ?_
  refine ops_val (ex_load ty25 rfl (H.cell (i := 3) rfl hcq)) ?_
  refine ops_val (ex_assign rfl) ?_
  refine ops_nil ?_
  refine nR55 ?_
  refine run_seq ?_
  refine run_region ?_
  refine ops_val (ex_move rfl) ?_
  refine ops_val (ex_move rfl) ?_
  refine ops_val (ex_len_slice Tryz.underlying25 rfl) ?_
  obtain ⟨⟨nn, ic, ec⟩, hcn⟩ : ∃ s, countStep b 1024 i e = s := ⟨_, rfl⟩
  have hcb2 := countStep_le (b := b) (most := 1024) (i := i) (e := e) hi
  have hic := hcb2.1
  have hn3 := hcb2.2.2.1
  rw [hcn] at hic hn3
  simp only at hic hn3
  have hnn : nn ≤ 1024 := by have : ((nn : Nat) : Int) ≤ max 1024 0 := hn3; omega
  have hmr : (Th.many thdeal false).rd b i e = rdN thdeal b nn ic ec := by
    show rdN thdeal b (countStep b 1024 i e).1 (countStep b 1024 i e).2.1 (countStep b 1024 i e).2.2 = _
    rw [hcn]
  have hk := many_r gp gr gb cb sb b i e _ (Hp.less (es := vr gp gr gb cb sb b i e) (R := [(some go, U, cs)]) H).here hcb hbl hi
  rw [hcn] at hk
  refine ops_call_val (ex_call gf79 rfl) hk ?_
  intro w1 Hd
  have HN0 := Hp.front (R := [(some go, U, cs)]) H Hd
  have H1 := HN0
  refine nO55 ?_
  refine ops_val (ex_assign rfl) ?_
  refine ops_nil ?_
  refine nR55 ?_
  refine run_seq ?_
  refine run_seq ?_
  refine run_region ?_
  refine ops_val (ex_move rfl) ?_
  refine ops_val (ex_nilCheck rfl) ?_
  refine ops_val (ex_fieldAddr fl51_1 rfl) ?_
  refine ops_val (ex_load ty49 rfl (H1.cell (i := 0) rfl rfl)) ?_
  refine nO55 ?_
  refine ops_true (ex_neq_nil_ptr Tryz.underlying49 rfl) (by simp) ?_
  refine ops_nil ?_
  refine nR55 ?_
  refine run_cond_true rfl ?_
  refine run_region ?_
  refine ops_val (ex_move rfl) ?_
  refine ops_val (ex_nilCheck rfl) ?_
  have hset : cs.set o (Value.slice none 0 0) = putAt cs o [Value.slice none 0 0] := (putAt_one (by omega)).symm
  refine ops_store1 ty25 H1 3 rfl rfl rfl rfl (by omega) rfl ?_
  intro w2 HN0
  have H2 : Hp w0 w2 (bl (vr gp gr gb cb sb b i e ++ [(some go, U, cs)])) (vr gp gr gb cb sb b ic ec ++ [(some go, U, putAt cs o [Value.slice none 0 0])]) := by rw [← hset]; exact HN0
  refine ops_nil ?_
  refine nR55 ?_
  refine run_seq ?_
  refine run_region ?_
  refine ops_val (ex_assign rfl) ?_
  refine ops_nil ?_
  refine nR55 ?_
  refine run_block ?_
  refine run_loop (fun n l w => ∃ (q : Nat) (y : Int) (i1 e1 : Nat) (xs : List thdeal.X) (uc spl : List Value) (gl : Option Nat) (capl : Nat), nn - q = n ∧ Fits [some (.pointer (some ⟨gp, 0, none⟩)), some (.pointer (some ⟨go, o, none⟩)), none, none, none, some (.int .i64 (nn : Int)), some (.int .i64 y), none, none, none, none, none, none, none, none, none, none, none, none, none, none, none, none, none, none, none, none, none, none, none, none, none, none, none, none, none, none, none, none, none, none, none, none, none, none, none, none, none, none, none, none, none, none, none, none] l ∧ y = q ∧ q ≤ nn ∧ xs.length = q ∧ rdN thdeal b nn ic ec = (xs ++ (rdN thdeal b (nn - q) i1 e1).1, (rdN thdeal b (nn - q) i1 e1).2) ∧ i1 ≤ b.length ∧ uc.length = q * 8 ∧ uc.all (·.oneCell') = true ∧ q ≤ capl ∧ capl * 8 ≤ (uc ++ spl).length ∧ (gl = none → capl = 0) ∧ Hp w0 w (bl (vr gp gr gb cb sb b i e ++ [(some go, U, cs)])) ((vr gp gr gb cb sb b i1 e1 ++ [(some go, U, putAt cs o [Value.slice (hd gl) q capl])]) ++ [(gl, 74, uc ++ spl)]) ∧ (e1 = 0 → ∀ j (hj : j < xs.length), thdeal.M w (Fr w w0.heap.size ((vr gp gr gb cb sb b i1 e1 ++ [(some go, U, putAt cs o [Value.slice (hd gl) q capl])]) ++ [(gl, 74, uc ++ spl)])) xs[j] ((uc.drop (j * 8)).take 8))) (nn) ?_ ?_
  · exact ⟨0, _, ic, ec, [], [], [], none, 0, rfl, (fs (fs (fn (fn (fn (fs (fs (fn (fn (fn (fn (fn (fn (fn (fn (fn (fn (fn (fn (fn (fn (fn (fn (fn (fn (fn (fn (fn (fn (fn (fn (fn (fn (fn (fn (fn (fn (fn (fn (fn (fn (fn (fn (fn (fn (fn (fn (fn (fn (fn (fn (fn (fn (fn (fn f0))))))))))))))))))))))))))))))))))))))))))))))))))))))), rfl, Nat.zero_le _, rfl, rfl, hic, rfl, rfl, Nat.le_refl _, Nat.zero_le _, fun _ => rfl, (H2.nil 74), fun _ j hj => by cases hj⟩
  · rintro n l w3 ⟨q, y, i1, e1, xs, uc, spl, gl, capl, rfl, hfit, rfl, hq, hxs, hrd, hi1, hul, huo, hqc, hcl, hgl, H3, hel⟩
    obtain ⟨j, rfl⟩ := hfit.open
    refine nR55 ?_
    clear hfit
    refine run_seq ?_
    refine run_seq ?_
    refine run_region ?_
    refine ops_val (ex_move rfl) ?_
    refine ops_val (ex_move rfl) ?_
    refine ops_test (ex_lss rfl rfl) (fun hp24 => ?_) (fun hp24 => ?_)
    · have hql : q < nn := by omega
      refine ops_val (ex_move rfl) ?_
      refine nO55 ?_
      refine ops_yes rfl ?_
      refine ops_val (ex_move rfl) ?_
      refine ops_yes rfl ?_
      have HZ : Hp w0 w3 (bl (vr gp gr gb cb sb b i e ++ [(some go, U, cs)])) (vr gp gr gb cb sb b i1 e1 ++ [(some go, U, putAt cs o [Value.slice (hd gl) q capl]), (gl, 74, uc ++ spl)]) := H3
      have hk := more_r gp gr gb cb sb b i1 e1 _ (Hp.less (es := vr gp gr gb cb sb b i1 e1) HZ).here
      refine ops_call_val (ex_call gf80 rfl) hk ?_
      intro w4 Hd
      replace hel := fun h0 j hj => Fr.to (hel h0 j hj) (Hp.front (R := [(some go, U, putAt cs o [Value.slice (hd gl) q capl]), (gl, 74, uc ++ spl)]) HZ.here Hd)
      have H4 := Hp.front HZ Hd
      refine ops_val (ex_pick_t rfl rfl) ?_
      refine ops_nil ?_
      refine nR55 ?_
      refine run_cond rfl (fun hb28 => ?_) (fun hb28 => ?_)
      · have he1 : e1 = 0 := by simpa using hb28
        refine run_skip ?_
        refine run_seq ?_
        refine run_block ?_
        refine run_seq ?_
        refine run_region ?_
        have HB := H4
        replace H4 := HB.here
        refine ops_alloc ty74 H4 ?_
        intro w5 gx H5 hgx
        refine ops_nil ?_
        refine nR55 ?_
        refine run_seq ?_
        refine run_seq ?_
        refine run_region ?_
        refine ops_val (ex_move rfl) ?_
        refine ops_val (ex_nilCheck rfl) ?_
        refine ops_val (ex_fieldAddr fl51_1 rfl) ?_
        refine ops_val (ex_load ty49 rfl (H5.cell (i := 0) rfl rfl)) ?_
        refine nO55 ?_
        refine ops_false (ex_eql_nil_ptr Tryz.underlying49 rfl) (by simp) ?_
        refine ops_nil ?_
        refine nR55 ?_
        refine run_cond_false rfl ?_
        refine run_skip ?_
        refine run_seq ?_
        refine run_region ?_
        refine ops_val (ex_move rfl) ?_
        have HX : Hp _ w5 _ ((vr gp gr gb cb sb b i1 e1 ++ [(some gx, 74, [.int .i64 0, .int .i64 0, .string .empty, .string .empty, .int .i64 0, .int .i64 0, .int .i64 0, .int .i64 0])]) ++ [(some go, U, putAt cs o [Value.slice (hd gl) q capl]), (gl, 74, uc ++ spl)]) := H5.pick [0, 1, 2, 5, 3, 4] (by decide)
        obtain ⟨⟨xv, i2, e2⟩, hx⟩ : ∃ s, thdeal.rd b i1 e1 = s := ⟨_, rfl⟩
        have hi2 : i2 ≤ b.length := by have := thdeal.le (b := b) (e := e1) hi1; rw [hx] at this; exact this
        refine ops_call (ex_call gf84 rfl) (vdeal_R gp gr gb cb sb b hcb hbl gx 0 i1 e1 74 _ _ HX.less.here hi1 (At.self _) (Nat.le_refl _)) ?_
        rintro _ w6 ⟨us, hus, huno, Hd, hMx⟩
        rw [hx] at Hd hMx
        simp only at Hd hMx
        have hpu : putAt [.int .i64 0, .int .i64 0, .string .empty, .string .empty, .int .i64 0, .int .i64 0, .int .i64 0, .int .i64 0] 0 us = us := putAt_all hus
        rw [hpu] at Hd hMx
        have hnsz := Nat.le_trans HB.size HX.size
        have HC := HX.front Hd
        replace hMx := fun h0 => thdeal.mono (ok' := Fr w6 w0.heap.size ((vr gp gr gb cb sb b i2 e2 ++ [(some gx, 74, us)]) ++ [(some go, U, putAt cs o [Value.slice (hd gl) q capl]), (gl, 74, uc ++ spl)])) (hMx h0) (fun p hp => ⟨by have := hp.1; omega, fun hq => by
          rw [bl_append] at hq
          rcases List.mem_append.1 hq with hq | hq
          · exact hp.2.1 hq
          · have h1 := bl_lt HX (b := p) (by rw [bl_append]; exact List.mem_append_right _ hq)
            have := hp.1
            omega, hp.2.2⟩)
        replace hel := fun h0 j hj => Fr.to (hel h0 j hj) HC
        have H6 := HC.here
        refine ops_nil ?_
        refine nR55 ?_
        refine run_seq ?_
        refine run_region ?_
        refine ops_val (ex_move rfl) ?_
        refine ops_val (ex_nilCheck rfl) ?_
        refine ops_val (ex_fieldAddr fl51_1 rfl) ?_
        refine ops_val (ex_load ty49 rfl (H6.cell (i := 0) rfl rfl)) ?_
        refine nO55 ?_
        refine ops_true (ex_neq_nil_ptr Tryz.underlying49 rfl) (by simp) ?_
        refine ops_nil ?_
        refine nR55 ?_
        refine run_cond_true rfl ?_
        refine run_mixZ 8 [(true, 0), (true, 1), (true, 2), (true, 3), (true, 4), (false, 5), (false, 6), (true, 7), (false, 8)] H6 [0, 1, 2, 3, 4] mixed (by decide) (by kernel_rfl) ?_
        rintro w7 hw7
        have H7 := Hp.drew H6; rw [← hw7] at H7
        refine mixz_p rfl ?_
        refine mix1_val (fun wz hz => ex_move rfl) ?_
        refine mixz_p rfl ?_
        refine mix1_val (fun wz hz => ex_move rfl) ?_
        refine mixz_p rfl ?_
        refine mix1_val (fun wz hz => ex_nilCheck rfl) ?_
        refine mixz_p rfl ?_
        refine mix1_val (fun wz hz => ex_load ty25 rfl (hz.cell (i := 4) rfl (show (putAt cs o [Value.slice (hd gl) q capl])[o]? = some (Value.slice (hd gl) q capl) from by rw [putAt_get (by simpa using hfit), if_neg (by omega), if_pos (by simp)]; simp))) ?_
        refine nZ55 ?_
        refine mixz_p rfl ?_
        refine mix1_val (fun wz hz => ex_loadN ty74 rfl (vs := us) hus (hz.cells (i := 3) rfl)) ?_
        refine mixz_o rfl ?_
        refine ops_build1 Tryz.underlying25 ty74 H7 rfl rfl hus (by decide) ?_
        intro w8 gn H8 hgn
        refine ops_nil ?_
        refine ⟨fun hne => H8.pick [0, 1, 2, 3, 4] (by decide), ?_⟩
        refine nZ55 ?_
        refine mixz_o rfl ?_
        refine ops_append Tryz.underlying25 ty74 (by decide) H8 5 (g := gl) (xs := uc) (sp := spl) rfl rfl hul hcl hqc hgl rfl (H8.rd (i := 6) (o := some gn) (xs := us) (sp := []) (by rw [List.append_nil]; rfl) (by rw [hus, Nat.one_mul]; rfl) (by decide)) huno (by omega) (by omega) (by decide) ?_
        intro w9 gl2 capl2 spl2 H9 hcl2 hqc2 hgl2
        refine ops_nil ?_
        refine ⟨fun hne => H9.pick [0, 1, 2, 3, 4] (by decide), ?_⟩
        refine nZ55 ?_
        refine mixz_p rfl ?_
        refine mix1_val (fun wz hz => ex_nilCheck rfl) ?_
        refine mixz_o rfl ?_
        refine ops_store1 ty25 H9 4 rfl rfl rfl rfl (by rw [putAt_len (by simpa using hfit)]; omega) rfl ?_
        intro w10 HS0
        have hset2 : (putAt cs o [Value.slice (hd gl) q capl]).set o (Value.slice (hd gl2) (q + 1) capl2) = putAt cs o [Value.slice (hd gl2) (q + 1) capl2] := by
          apply List.ext_getElem?
          intro j
          rw [List.getElem?_set, putAt_len (by simpa using hfit), putAt_get (by simpa using hfit), putAt_get (by simpa using hfit)]
          by_cases hj : o = j
          · subst hj; rw [if_pos rfl, if_pos (by omega), if_neg (by omega), if_pos (by simp)]; simp
          · rw [if_neg hj]
            split
            · rfl
            · rw [if_neg (by simp; omega), if_neg (by simp; omega)]
        have H10 := HS0
        refine ops_nil ?_
        refine ⟨fun hne => absurd rfl hne, ?_⟩
        refine nZ55 ?_
        refine mixz_nil ?_
        refine nR55 ?_
        refine run_nil (blk_normal ?_)
        refine run_region ?_
        refine ops_val (ex_move rfl) ?_
        refine ops_val (ex_add rfl rfl (IntWalk.i64_in _ (by omega))) ?_
        refine ops_val (ex_assign rfl) ?_
        refine ops_nil ?_
        refine nR55 ?_
        refine run_nil (rnd_normal ?_)
        have h1 := H10.pick [0, 1, 2, 4, 5] (by decide)
        rw [hset2] at h1
        have HR := (show ∀ (wa wb : World) (SS : List Nat), Hp wa wb SS ((vr gp gr gb cb sb b i2 e2 ++ [(some go, U, putAt cs o [Value.slice (hd gl2) (q + 1) capl2])]) ++ [(gl2, 74, (uc ++ us) ++ spl2)]) → Hp wa wb SS ((vr gp gr gb cb sb b i2 e2 ++ [(some go, U, putAt cs o [Value.slice (hd gl2) (q + 1) capl2])]) ++ [(gl2, 74, (uc ++ us) ++ spl2)]) from fun _ _ _ h => h) _ _ _ h1
        refine ⟨nn - (q + 1), by omega, q + 1, _, i2, e2, xs ++ [xv], uc ++ us, spl2, gl2, capl2, rfl, (fs (fs (fn (fn (fn (fs (fs (fn (fn (fn (fn (fn (fn (fn (fn (fn (fn (fn (fn (fn (fn (fn (fn (fn (fn (fn (fn (fn (fn (fn (fn (fn (fn (fn (fn (fn (fn (fn (fn (fn (fn (fn (fn (fn (fn (fn (fn (fn (fn (fn (fn (fn (fn (fn (fn f0))))))))))))))))))))))))))))))))))))))))))))))))))))))), rfl, by omega, by simp [hxs], ?_, hi2, by rw [List.length_append, hul, hus]; show q * 8 + 8 = (q + 1) * 8; omega, by rw [List.all_append, huo, huno]; rfl, hqc2, hcl2, hgl2, (HB.all HC).all HR, ?_⟩
        · rw [hrd, rdN_step hql he1 hx, List.append_assoc]; rfl
        · intro h0 j hj
          simp only [List.length_append, List.length_cons, List.length_nil] at hj
          by_cases hjq : j < xs.length
          · rw [List.getElem_append_left hjq]
            have hd1 : ((uc ++ us).drop (j * 8)).take 8 = (uc.drop (j * 8)).take 8 := by
              have h1 : (j + 1) * 8 ≤ q * 8 := Nat.mul_le_mul_right _ (by omega)
              rw [List.drop_append_of_le_length (by omega), List.take_append_of_le_length (by rw [List.length_drop]; omega)]
            rw [hd1]
            exact Fr.to (hel he1 j hjq) HR
          · have hjj : j = xs.length := by omega
            subst hjj
            rw [List.getElem_append_right (Nat.le_refl _)]
            have hd2 : ((uc ++ us).drop (xs.length * 8)).take 8 = us := by
              rw [hxs, ← hul, List.drop_left]
              exact List.take_of_length_le (Nat.le_of_eq hus)
            simp only [Nat.sub_self, List.getElem_cons_zero]
            rw [hd2]
            exact Fr.to (hMx h0) HR
      · have he1 : e1 ≠ 0 := by simpa using hb28
        refine run_exit ?_
        refine rnd_exit ?_
        refine blk_exit ?_
        refine run_nil ?_
        refine fin_end0 rfl ?_
        have hrw : (Th.many thdeal false).rd b i e = (xs, i1, e1) := by rw [hmr, hrd]; first | (rw [rdN_bad _ _ _ he1]; simp) | (simp [rdN])
        unfold RdOut
        rw [hrw]
        have HF : Hp w0 w4 _ ((vr gp gr gb cb sb b i1 e1 ++ [(some go, U, putAt cs o [Value.slice (hd gl) q capl])]) ++ [(gl, 74, uc ++ spl)]) := H4
        refine ⟨[Value.slice (hd gl) q capl], rfl, rfl, HF.less, fun h0 => ⟨hd gl, capl, uc, by rw [hxs], ⟨by rw [hxs]; omega, fun _ => by decide⟩, by rw [hxs]; exact HF.rd (i := 4) (o := gl) (xs := uc) (sp := spl) rfl hul (by decide), fun _ p hp => ⟨place_new HF rfl (i := 0) rfl p hp, row_apart HF (i := 0) rfl p hp, HF.tw (i := 4) rfl p hp⟩, fun _ _ p hp => HF.tw (i := 4) rfl p hp, fun j hj => thdeal.mono (hel h0 j hj) (fun p hp => ⟨hp.1, fun hq => hp.2.1 (show p ∈ bl ((vr gp gr gb cb sb b i1 e1 ++ [(some go, U, putAt cs o [Value.slice (hd gl) q capl])]) ++ [(gl, 74, uc ++ spl)]) from bl_left hq), hp.2.2⟩)⟩⟩
    · have hqm : q = nn := by omega
      subst hqm
      refine ops_val (ex_move rfl) ?_
      refine nO55 ?_
      refine ops_no rfl ?_
      refine ops_no rfl ?_
      refine ops_val (ex_pick_f rfl rfl) ?_
      refine ops_nil ?_
      refine nR55 ?_
      refine run_cond_false rfl ?_
      refine run_exit ?_
      refine rnd_exit ?_
      refine blk_exit ?_
      refine run_nil ?_
      refine fin_end0 rfl ?_
      have hrw : (Th.many thdeal false).rd b i e = (xs, i1, e1) := by rw [hmr, hrd]; first | (rw [rdN_bad _ _ _ he1]; simp) | (simp [rdN])
      unfold RdOut
      rw [hrw]
      have HF : Hp w0 w3 _ ((vr gp gr gb cb sb b i1 e1 ++ [(some go, U, putAt cs o [Value.slice (hd gl) q capl])]) ++ [(gl, 74, uc ++ spl)]) := H3
      refine ⟨[Value.slice (hd gl) q capl], rfl, rfl, HF.less, fun h0 => ⟨hd gl, capl, uc, by rw [hxs], ⟨by rw [hxs]; omega, fun _ => by decide⟩, by rw [hxs]; exact HF.rd (i := 4) (o := gl) (xs := uc) (sp := spl) rfl hul (by decide), fun _ p hp => ⟨place_new HF rfl (i := 0) rfl p hp, row_apart HF (i := 0) rfl p hp, HF.tw (i := 4) rfl p hp⟩, fun _ _ p hp => HF.tw (i := 4) rfl p hp, fun j hj => thdeal.mono (hel h0 j hj) (fun p hp => ⟨hp.1, fun hq => hp.2.1 (show p ∈ bl ((vr gp gr gb cb sb b i1 e1 ++ [(some go, U, putAt cs o [Value.slice (hd gl) q capl])]) ++ [(gl, 74, uc ++ spl)]) from bl_left hq), hp.2.2⟩)⟩⟩
theorem vldeal_R : WalkR Tryz.prog 52 (Th.many thdeal false) := vldeal_r
set_option maxRecDepth 100000 in
set_option maxHeartbeats 4000000 in
theorem vlend_w (gp go o : Nat) (g0 : Option Nat) (cap0 : Nat) (sp0 : List Value) (st : WS) (U : TypeId) (cs : List Value) (x : List thend.X) (vs : List Value) (w0 : World) (m : Nat) (a : WS) (H0 : Hp w0 w0 (bl (vwo gp g0 cap0 sp0 st go U cs)) (vwo gp g0 cap0 sp0 st go U cs)) (hm : m + (Th.many thend false).mx ≤ 1000000000) (hP : POk m g0 cap0 sp0 st) (ha : Alike a st) (hM : (Th.many thend false).M w0 (fun b => b ∉ bl (vwo gp g0 cap0 sp0 st go U cs)) x vs) (hat : At cs o vs) :
    Does Tryz.prog 53 #[.pointer (some ⟨gp, 0, none⟩), .pointer (some ⟨go, o, none⟩)] w0 (fun _ w' => VwOut (m + (Th.many thend false).mx) gp (wAll ((Th.many thend false).fl x) a) go U cs w0 (bl (vwo gp g0 cap0 sp0 st go U cs)) w') := by
  refine does_of Tryz.func53 Tryz.ntmps53 rfl ?_
  refine nR55 ?_
  have H := H0
  change m + 262171 ≤ 1000000000 at hm
  obtain ⟨B, c, cells, rfl, hz, hrd, hap, ht, hel⟩ := hM
  have hcq : cs[o]? = some (.slice B x.length c) := by have := hat 0 _ rfl; rwa [Nat.add_zero] at this
  refine run_seq ?_
  refine run_region ?_
  refine ops_val (ex_move rfl) ?_
  refine ops_val (ex_nilCheck rfl) ?_
  refine ops_val (ex_load ty26 rfl (H.cell (i := 2) rfl hcq)) ?_
  refine ops_val (ex_assign rfl) ?_
  refine ops_nil ?_
  refine nR55 ?_
  refine run_seq ?_
  refine run_region ?_
  refine ops_val (ex_move rfl) ?_
  refine ops_val (ex_move rfl) ?_
  refine ops_val (ex_len_slice Tryz.underlying26 rfl) ?_
  have hA1 : Alike (wl thend x 0 a) (vFld (.count x.length) st) := alike_fld _ ha
  have hlg : (st.long = true ∨ 1024 < x.length) → (wl thend x 0 a).long = true := fun h => (alike_out hA1).1 (.inl (by
    have : vFld (.count x.length) st = ⟨st.out, true⟩ := vFld_count_long (h.imp id (fun h => by simp [tooLong]; omega))
    rw [this]))
  have hk := many_w gp g0 cap0 sp0 st x.length _ (Hp.less (es := vw gp g0 cap0 sp0 st) (R := [(some go, U, cs)]) H).here m (by omega) hP (by have := hz.1; omega)
  refine ops_call (ex_call gf79 rfl) hk ?_
  rintro _ w1 ⟨g, cap, sp, rfl, hP1, Hd⟩
  obtain ⟨nn, hnn⟩ : ∃ nn, (if st.long = true ∨ 1024 < x.length then 0 else x.length) = nn := ⟨_, rfl⟩
  rw [hnn]
  have hnx : nn ≤ x.length := by split at hnn <;> omega
  have H1 := Hp.front (R := [(some go, U, cs)]) H Hd
  refine nO55 ?_
  refine ops_val (ex_assign rfl) ?_
  refine ops_nil ?_
  refine nR55 ?_
  refine run_seq ?_
  refine run_seq ?_
  refine run_region ?_
  refine ops_val (ex_move rfl) ?_
  refine ops_val (ex_nilCheck rfl) ?_
  refine ops_val (ex_fieldAddr fl51_1 rfl) ?_
  refine ops_val (ex_load ty49 rfl (H1.cell (i := 0) rfl rfl)) ?_
  refine nO55 ?_
  refine ops_false (ex_neq_nil_ptr Tryz.underlying49 rfl) (by simp) ?_
  refine ops_nil ?_
  refine nR55 ?_
  refine run_cond_false rfl ?_
  refine run_skip ?_
  refine run_seq ?_
  refine run_region ?_
  refine ops_val (ex_assign rfl) ?_
  refine ops_nil ?_
  refine nR55 ?_
  refine run_block ?_
  refine run_loop (fun n l w => ∃ (q : Nat) (y : Int) (s1 : WS) (g : Option Nat) (cap : Nat) (sp : List Value), nn - q = n ∧ Fits [some (.pointer (some ⟨gp, 0, none⟩)), some (.pointer (some ⟨go, o, none⟩)), none, none, some (.slice B x.length c), some (.int .i64 (nn : Int)), some (.int .i64 y), none, none, none, none, none, none, none, none, none, none, none, none, none, none, none, none, none, none, none, none, none, none, none, none, none, none, none, none, none, none, none, none, none, none, none, none, none, none, none, none, none, none, none, none, none, none, none, none] l ∧ y = q ∧ q ≤ nn ∧ Alike (wl thend x q a) s1 ∧ POk (m + 262171) g cap sp s1 ∧ Hp w0 w (bl (vwo gp g0 cap0 sp0 st go U cs)) (vwo gp g cap sp s1 go U cs)) (nn) ?_ ?_
  · exact ⟨0, _, _, g, cap, sp, rfl, (fs (fs (fn (fn (fs (fs (fs (fn (fn (fn (fn (fn (fn (fn (fn (fn (fn (fn (fn (fn (fn (fn (fn (fn (fn (fn (fn (fn (fn (fn (fn (fn (fn (fn (fn (fn (fn (fn (fn (fn (fn (fn (fn (fn (fn (fn (fn (fn (fn (fn (fn (fn (fn (fn (fn f0))))))))))))))))))))))))))))))))))))))))))))))))))))))), rfl, Nat.zero_le _, hA1, hP1.mono (by omega), H1⟩
  · rintro n l w2 ⟨q, y, s1, g, cap, sp, rfl, hfit, rfl, hq, hA, hP, H2⟩
    obtain ⟨j, rfl⟩ := hfit.open
    refine nR55 ?_
    clear hfit
    refine run_seq ?_
    refine run_seq ?_
    refine run_region ?_
    refine ops_val (ex_move rfl) ?_
    refine ops_val (ex_move rfl) ?_
    refine ops_test (ex_lss rfl rfl) (fun hp24 => ?_) (fun hp24 => ?_)
    · have hql : q < nn := by omega
      have hqx : q < x.length := by omega
      refine ops_val (ex_move rfl) ?_
      refine nO55 ?_
      refine ops_yes rfl ?_
      refine ops_val (ex_move rfl) ?_
      refine ops_yes rfl ?_
      have hk := more_w gp g cap sp s1 _ (Hp.less (es := vw gp g cap sp s1) (R := [(some go, U, cs)]) H2).here
      refine ops_call_val (ex_call gf80 rfl) hk ?_
      intro w3 Hd
      have H3 := Hp.front (R := [(some go, U, cs)]) H2 Hd
      refine ops_val (ex_pick_t rfl rfl) ?_
      refine ops_nil ?_
      refine nR55 ?_
      refine run_cond rfl (fun hb28 => ?_) (fun hb28 => ?_)
      · have hmo : ¬ (s1.long = true ∨ 65536 < s1.out.length) := by simpa using hb28
        refine run_skip ?_
        refine run_seq ?_
        refine run_block ?_
        refine run_seq ?_
        refine run_region ?_
        obtain ⟨pa, hpa⟩ := hrd.some_ (by omega)
        subst hpa
        have hpb := hap (by omega) pa rfl
        have hln : ((cells.drop (q * 2)).take 2).length = 2 := elem_len hrd hqx
        refine ops_alloc ty77 H3 ?_
        intro w4 gv H4 hgv
        refine ops_nil ?_
        refine nR55 ?_
        refine run_seq ?_
        refine run_seq ?_
        refine run_region ?_
        refine ops_val (ex_move rfl) ?_
        refine ops_val (ex_nilCheck rfl) ?_
        refine ops_val (ex_fieldAddr fl51_1 rfl) ?_
        refine ops_val (ex_load ty49 rfl (H4.cell (i := 0) rfl rfl)) ?_
        refine nO55 ?_
        refine ops_true (ex_eql_nil_ptr Tryz.underlying49 rfl) (rfl) ?_
        refine ops_nil ?_
        refine nR55 ?_
        refine run_cond_true rfl ?_
        refine run_region ?_
        refine ops_val (ex_move rfl) ?_
        refine ops_val (ex_move rfl) ?_
        refine ops_val (ex_idx Tryz.underlying26 ty77 rfl rfl rfl hqx rfl) ?_
        refine ops_val (ex_loadN ty77 rfl (vs := ((cells.drop (q * 2)).take 2)) hln ((elem_cl hrd hqx hpb).to H4).cell) ?_
        refine nO55 ?_
        refine ops_store ty77 H4 3 rfl rfl rfl rfl hln (by rw [hln]; decide) (thend.ones (hel q hqx)) ?_
        intro w5 H5
        have hpu : putAt [.int .i64 0, .int .i64 0] 0 ((cells.drop (q * 2)).take 2) = ((cells.drop (q * 2)).take 2) := putAt_all hln
        rw [hpu] at H5
        refine ops_nil ?_
        refine nR55 ?_
        refine run_seq ?_
        refine run_region ?_
        refine ops_val (ex_move rfl) ?_
        have HX : Hp w0 w5 (bl (vwo gp g0 cap0 sp0 st go U cs)) (vwo gp g cap sp s1 gv 77 ((cells.drop (q * 2)).take 2) ++ [(some go, U, cs)]) := H5.pick [0, 1, 3, 2] (by decide)
        have hMq := thend.to (hel q hqx) HX.less (fun _ h => h)
        refine ops_call (ex_call gf85 rfl) (vend_W gp gv 0 g cap sp s1 77 _ x[q] _ _ 65536 (wl thend x q a) HX.less.here (by decide) ⟨hP.1, hP.2, hP.3, by omega⟩ hA (thend.mono hMq fun _ h => h.2) (At.self _)) ?_
        rintro _ w6 ⟨s2, g, cap, sp, hA2, hP2, Hd⟩
        have H6 := (HX.front Hd).pick [0, 1, 3] (by decide)
        refine ops_nil ?_
        refine nR55 ?_
        refine run_seq ?_
        refine run_region ?_
        refine ops_val (ex_move rfl) ?_
        refine ops_val (ex_nilCheck rfl) ?_
        refine ops_val (ex_fieldAddr fl51_1 rfl) ?_
        refine ops_val (ex_load ty49 rfl (H6.cell (i := 0) rfl rfl)) ?_
        refine nO55 ?_
        refine ops_false (ex_neq_nil_ptr Tryz.underlying49 rfl) (by simp) ?_
        refine ops_nil ?_
        refine nR55 ?_
        refine run_cond_false rfl ?_
        refine run_skip ?_
        refine run_nil (blk_normal ?_)
        refine run_region ?_
        refine ops_val (ex_move rfl) ?_
        refine ops_val (ex_add rfl rfl (IntWalk.i64_in _ (by omega))) ?_
        refine ops_val (ex_assign rfl) ?_
        refine ops_nil ?_
        refine nR55 ?_
        refine run_nil (rnd_normal ?_)
        exact ⟨nn - (q + 1), by omega, q + 1, _, s2, g, cap, sp, rfl, (fs (fs (fn (fn (fs (fs (fs (fn (fn (fn (fn (fn (fn (fn (fn (fn (fn (fn (fn (fn (fn (fn (fn (fn (fn (fn (fn (fn (fn (fn (fn (fn (fn (fn (fn (fn (fn (fn (fn (fn (fn (fn (fn (fn (fn (fn (fn (fn (fn (fn (fn (fn (fn (fn (fn f0))))))))))))))))))))))))))))))))))))))))))))))))))))))), rfl, by omega, by rw [wl_succ hqx]; exact hA2, hP2.mono (show 65536 + 131090 ≤ m + 262171 by omega), H6⟩
      · have hmo : s1.long = true ∨ 65536 < s1.out.length := by
          have h := of_decide_eq_false hb28
          exact Classical.not_not.1 h
        refine run_exit ?_
        refine rnd_exit ?_
        refine blk_exit ?_
        refine run_nil ?_
        refine fin_end0 rfl ?_
        have e : wAll ((Th.many thend false).fl x) a = wl thend x q a := wl_stop false ((alike_out hA).1 hmo)
        rw [e]
        exact ⟨s1, g, cap, sp, hA, hP, H3⟩
    · have hqm : q = nn := by omega
      subst hqm
      refine ops_val (ex_move rfl) ?_
      refine nO55 ?_
      refine ops_no rfl ?_
      refine ops_no rfl ?_
      refine ops_val (ex_pick_f rfl rfl) ?_
      refine ops_nil ?_
      refine nR55 ?_
      refine run_cond_false rfl ?_
      refine run_exit ?_
      refine rnd_exit ?_
      refine blk_exit ?_
      refine run_nil ?_
      refine fin_end0 rfl ?_
      have e : wAll ((Th.many thend false).fl x) a = wl thend x q a := by
        by_cases hc : st.long = true ∨ 1024 < x.length
        · rw [if_pos hc] at hnn
          subst hnn
          exact wl_stop false (hlg hc)
        · rw [if_neg hc] at hnn
          subst hnn
          exact (wl_all thend false x a).symm
      rw [e]
      exact ⟨s1, g, cap, sp, hA, hP, H2⟩
theorem vlend_W : WalkW Tryz.prog 53 (Th.many thend false) := vlend_w
set_option maxRecDepth 100000 in
set_option maxHeartbeats 4000000 in
theorem vlend_r (gp gr : Nat) (gb : Option Nat) (cb : Nat) (sb : List Value) (b : List UInt8) (hcb : b.length ≤ cb) (hbl : b.length ≤ 65536) (go o i e : Nat) (U : TypeId) (cs : List Value) (w0 : World) (H0 : Hp w0 w0 (bl (vr gp gr gb cb sb b i e ++ [(some go, U, cs)])) (vr gp gr gb cb sb b i e ++ [(some go, U, cs)])) (hi : i ≤ b.length) (hat : At cs o (Th.many thend false).zs) (hfit : o + (Th.many thend false).sz ≤ cs.length) :
    Does Tryz.prog 53 #[.pointer (some ⟨gp, 0, none⟩), .pointer (some ⟨go, o, none⟩)] w0 (fun _ w' => RdOut (vr gp gr gb cb sb b) (Th.many thend false) go o U cs b i e w0.heap.size w0 (bl (vr gp gr gb cb sb b i e ++ [(some go, U, cs)])) w') := by
  refine does_of Tryz.func53 Tryz.ntmps53 rfl ?_
  refine nR55 ?_
  have H := H0
  change o + 1 ≤ cs.length at hfit
  have hcq : cs[o]? = some (Value.slice none 0 0) := by have := hat 0 _ rfl; rwa [Nat.add_zero] at this
  have hrow : putAt cs o [Value.slice none 0 0] = cs := putAt_same hat (by simpa using hfit)
  refine run_seq ?_
  refine run_region ?_
  refine ops_val (ex_move rfl) ?_
  refine ops_val (ex_nilCheck rfl) ?_
  refine ops_val (ex_load ty26 rfl (H.cell (i := 3) rfl hcq)) ?_
  refine ops_val (ex_assign rfl) ?_
  refine ops_nil ?_
  refine nR55 ?_
  refine run_seq ?_
  refine run_region ?_
  refine ops_val (ex_move rfl) ?_
  refine ops_val (ex_move rfl) ?_
  refine ops_val (ex_len_slice Tryz.underlying26 rfl) ?_
  obtain ⟨⟨nn, ic, ec⟩, hcn⟩ : ∃ s, countStep b 1024 i e = s := ⟨_, rfl⟩
  have hcb2 := countStep_le (b := b) (most := 1024) (i := i) (e := e) hi
  have hic := hcb2.1
  have hn3 := hcb2.2.2.1
  rw [hcn] at hic hn3
  simp only at hic hn3
  have hnn : nn ≤ 1024 := by have : ((nn : Nat) : Int) ≤ max 1024 0 := hn3; omega
  have hmr : (Th.many thend false).rd b i e = rdN thend b nn ic ec := by
    show rdN thend b (countStep b 1024 i e).1 (countStep b 1024 i e).2.1 (countStep b 1024 i e).2.2 = _
    rw [hcn]
  have hk := many_r gp gr gb cb sb b i e _ (Hp.less (es := vr gp gr gb cb sb b i e) (R := [(some go, U, cs)]) H).here hcb hbl hi
  rw [hcn] at hk
  refine ops_call_val (ex_call gf79 rfl) hk ?_
  intro w1 Hd
  have HN0 := Hp.front (R := [(some go, U, cs)]) H Hd
  have H1 := HN0
  refine nO55 ?_
  refine ops_val (ex_assign rfl) ?_
  refine ops_nil ?_
  refine nR55 ?_
  refine run_seq ?_
  refine run_seq ?_
  refine run_region ?_
  refine ops_val (ex_move rfl) ?_
  refine ops_val (ex_nilCheck rfl) ?_
  refine ops_val (ex_fieldAddr fl51_1 rfl) ?_
  refine ops_val (ex_load ty49 rfl (H1.cell (i := 0) rfl rfl)) ?_
  refine nO55 ?_
  refine ops_true (ex_neq_nil_ptr Tryz.underlying49 rfl) (by simp) ?_
  refine ops_nil ?_
  refine nR55 ?_
  refine run_cond_true rfl ?_
  refine run_region ?_
  refine ops_val (ex_move rfl) ?_
  refine ops_val (ex_nilCheck rfl) ?_
  have hset : cs.set o (Value.slice none 0 0) = putAt cs o [Value.slice none 0 0] := (putAt_one (by omega)).symm
  refine ops_store1 ty26 H1 3 rfl rfl rfl rfl (by omega) rfl ?_
  intro w2 HN0
  have H2 : Hp w0 w2 (bl (vr gp gr gb cb sb b i e ++ [(some go, U, cs)])) (vr gp gr gb cb sb b ic ec ++ [(some go, U, putAt cs o [Value.slice none 0 0])]) := by rw [← hset]; exact HN0
  refine ops_nil ?_
  refine nR55 ?_
  refine run_seq ?_
  refine run_region ?_
  refine ops_val (ex_assign rfl) ?_
  refine ops_nil ?_
  refine nR55 ?_
  refine run_block ?_
  refine run_loop (fun n l w => ∃ (q : Nat) (y : Int) (i1 e1 : Nat) (xs : List thend.X) (uc spl : List Value) (gl : Option Nat) (capl : Nat), nn - q = n ∧ Fits [some (.pointer (some ⟨gp, 0, none⟩)), some (.pointer (some ⟨go, o, none⟩)), none, none, none, some (.int .i64 (nn : Int)), some (.int .i64 y), none, none, none, none, none, none, none, none, none, none, none, none, none, none, none, none, none, none, none, none, none, none, none, none, none, none, none, none, none, none, none, none, none, none, none, none, none, none, none, none, none, none, none, none, none, none, none, none] l ∧ y = q ∧ q ≤ nn ∧ xs.length = q ∧ rdN thend b nn ic ec = (xs ++ (rdN thend b (nn - q) i1 e1).1, (rdN thend b (nn - q) i1 e1).2) ∧ i1 ≤ b.length ∧ uc.length = q * 2 ∧ uc.all (·.oneCell') = true ∧ q ≤ capl ∧ capl * 2 ≤ (uc ++ spl).length ∧ (gl = none → capl = 0) ∧ Hp w0 w (bl (vr gp gr gb cb sb b i e ++ [(some go, U, cs)])) ((vr gp gr gb cb sb b i1 e1 ++ [(some go, U, putAt cs o [Value.slice (hd gl) q capl])]) ++ [(gl, 77, uc ++ spl)]) ∧ (e1 = 0 → ∀ j (hj : j < xs.length), thend.M w (Fr w w0.heap.size ((vr gp gr gb cb sb b i1 e1 ++ [(some go, U, putAt cs o [Value.slice (hd gl) q capl])]) ++ [(gl, 77, uc ++ spl)])) xs[j] ((uc.drop (j * 2)).take 2))) (nn) ?_ ?_
  · exact ⟨0, _, ic, ec, [], [], [], none, 0, rfl, (fs (fs (fn (fn (fn (fs (fs (fn (fn (fn (fn (fn (fn (fn (fn (fn (fn (fn (fn (fn (fn (fn (fn (fn (fn (fn (fn (fn (fn (fn (fn (fn (fn (fn (fn (fn (fn (fn (fn (fn (fn (fn (fn (fn (fn (fn (fn (fn (fn (fn (fn (fn (fn (fn (fn f0))))))))))))))))))))))))))))))))))))))))))))))))))))))), rfl, Nat.zero_le _, rfl, rfl, hic, rfl, rfl, Nat.le_refl _, Nat.zero_le _, fun _ => rfl, (H2.nil 77), fun _ j hj => by cases hj⟩
  · rintro n l w3 ⟨q, y, i1, e1, xs, uc, spl, gl, capl, rfl, hfit, rfl, hq, hxs, hrd, hi1, hul, huo, hqc, hcl, hgl, H3, hel⟩
    obtain ⟨j, rfl⟩ := hfit.open
    refine nR55 ?_
    clear hfit
    refine run_seq ?_
    refine run_seq ?_
    refine run_region ?_
    refine ops_val (ex_move rfl) ?_
    refine ops_val (ex_move rfl) ?_
    refine ops_test (ex_lss rfl rfl) (fun hp24 => ?_) (fun hp24 => ?_)
    · have hql : q < nn := by omega
      refine ops_val (ex_move rfl) ?_
      refine nO55 ?_
      refine ops_yes rfl ?_
      refine ops_val (ex_move rfl) ?_
      refine ops_yes rfl ?_
      have HZ : Hp w0 w3 (bl (vr gp gr gb cb sb b i e ++ [(some go, U, cs)])) (vr gp gr gb cb sb b i1 e1 ++ [(some go, U, putAt cs o [Value.slice (hd gl) q capl]), (gl, 77, uc ++ spl)]) := H3
      have hk := more_r gp gr gb cb sb b i1 e1 _ (Hp.less (es := vr gp gr gb cb sb b i1 e1) HZ).here
      refine ops_call_val (ex_call gf80 rfl) hk ?_
      intro w4 Hd
      replace hel := fun h0 j hj => Fr.to (hel h0 j hj) (Hp.front (R := [(some go, U, putAt cs o [Value.slice (hd gl) q capl]), (gl, 77, uc ++ spl)]) HZ.here Hd)
      have H4 := Hp.front HZ Hd
      refine ops_val (ex_pick_t rfl rfl) ?_
      refine ops_nil ?_
      refine nR55 ?_
      refine run_cond rfl (fun hb28 => ?_) (fun hb28 => ?_)
      · have he1 : e1 = 0 := by simpa using hb28
        refine run_skip ?_
        refine run_seq ?_
        refine run_block ?_
        refine run_seq ?_
        refine run_region ?_
        have HB := H4
        replace H4 := HB.here
        refine ops_alloc ty77 H4 ?_
        intro w5 gx H5 hgx
        refine ops_nil ?_
        refine nR55 ?_
        refine run_seq ?_
        refine run_seq ?_
        refine run_region ?_
        refine ops_val (ex_move rfl) ?_
        refine ops_val (ex_nilCheck rfl) ?_
        refine ops_val (ex_fieldAddr fl51_1 rfl) ?_
        refine ops_val (ex_load ty49 rfl (H5.cell (i := 0) rfl rfl)) ?_
        refine nO55 ?_
        refine ops_false (ex_eql_nil_ptr Tryz.underlying49 rfl) (by simp) ?_
        refine ops_nil ?_
        refine nR55 ?_
        refine run_cond_false rfl ?_
        refine run_skip ?_
        refine run_seq ?_
        refine run_region ?_
        refine ops_val (ex_move rfl) ?_
        have HX : Hp _ w5 _ ((vr gp gr gb cb sb b i1 e1 ++ [(some gx, 77, [.int .i64 0, .int .i64 0])]) ++ [(some go, U, putAt cs o [Value.slice (hd gl) q capl]), (gl, 77, uc ++ spl)]) := H5.pick [0, 1, 2, 5, 3, 4] (by decide)
        obtain ⟨⟨xv, i2, e2⟩, hx⟩ : ∃ s, thend.rd b i1 e1 = s := ⟨_, rfl⟩
        have hi2 : i2 ≤ b.length := by have := thend.le (b := b) (e := e1) hi1; rw [hx] at this; exact this
        refine ops_call (ex_call gf85 rfl) (vend_R gp gr gb cb sb b hcb hbl gx 0 i1 e1 77 _ _ HX.less.here hi1 (At.self _) (Nat.le_refl _)) ?_
        rintro _ w6 ⟨us, hus, huno, Hd, hMx⟩
        rw [hx] at Hd hMx
        simp only at Hd hMx
        have hpu : putAt [.int .i64 0, .int .i64 0] 0 us = us := putAt_all hus
        rw [hpu] at Hd hMx
        have hnsz := Nat.le_trans HB.size HX.size
        have HC := HX.front Hd
        replace hMx := fun h0 => thend.mono (ok' := Fr w6 w0.heap.size ((vr gp gr gb cb sb b i2 e2 ++ [(some gx, 77, us)]) ++ [(some go, U, putAt cs o [Value.slice (hd gl) q capl]), (gl, 77, uc ++ spl)])) (hMx h0) (fun p hp => ⟨by have := hp.1; omega, fun hq => by
          rw [bl_append] at hq
          rcases List.mem_append.1 hq with hq | hq
          · exact hp.2.1 hq
          · have h1 := bl_lt HX (b := p) (by rw [bl_append]; exact List.mem_append_right _ hq)
            have := hp.1
            omega, hp.2.2⟩)
        replace hel := fun h0 j hj => Fr.to (hel h0 j hj) HC
        have H6 := HC.here
        refine ops_nil ?_
        refine nR55 ?_
        refine run_seq ?_
        refine run_region ?_
        refine ops_val (ex_move rfl) ?_
        refine ops_val (ex_nilCheck rfl) ?_
        refine ops_val (ex_fieldAddr fl51_1 rfl) ?_
        refine ops_val (ex_load ty49 rfl (H6.cell (i := 0) rfl rfl)) ?_
        refine nO55 ?_
        refine ops_true (ex_neq_nil_ptr Tryz.underlying49 rfl) (by simp) ?_
        refine ops_nil ?_
        refine nR55 ?_
        refine run_cond_true rfl ?_
        refine run_mixZ 8 [(true, 0), (true, 1), (true, 2), (true, 3), (true, 4), (false, 5), (false, 6), (true, 7), (false, 8)] H6 [0, 1, 2, 3, 4] mixed (by decide) (by kernel_rfl) ?_
        rintro w7 hw7
        have H7 := Hp.drew H6; rw [← hw7] at H7
        refine mixz_p rfl ?_
        refine mix1_val (fun wz hz => ex_move rfl) ?_
        refine mixz_p rfl ?_
        refine mix1_val (fun wz hz => ex_move rfl) ?_
        refine mixz_p rfl ?_
        refine mix1_val (fun wz hz => ex_nilCheck rfl) ?_
        refine mixz_p rfl ?_
        refine mix1_val (fun wz hz => ex_load ty26 rfl (hz.cell (i := 4) rfl (show (putAt cs o [Value.slice (hd gl) q capl])[o]? = some (Value.slice (hd gl) q capl) from by rw [putAt_get (by simpa using hfit), if_neg (by omega), if_pos (by simp)]; simp))) ?_
        refine nZ55 ?_
        refine mixz_p rfl ?_
        refine mix1_val (fun wz hz => ex_loadN ty77 rfl (vs := us) hus (hz.cells (i := 3) rfl)) ?_
        refine mixz_o rfl ?_
        refine ops_build1 Tryz.underlying26 ty77 H7 rfl rfl hus (by decide) ?_
        intro w8 gn H8 hgn
        refine ops_nil ?_
        refine ⟨fun hne => H8.pick [0, 1, 2, 3, 4] (by decide), ?_⟩
        refine nZ55 ?_
        refine mixz_o rfl ?_
        refine ops_append Tryz.underlying26 ty77 (by decide) H8 5 (g := gl) (xs := uc) (sp := spl) rfl rfl hul hcl hqc hgl rfl (H8.rd (i := 6) (o := some gn) (xs := us) (sp := []) (by rw [List.append_nil]; rfl) (by rw [hus, Nat.one_mul]; rfl) (by decide)) huno (by omega) (by omega) (by decide) ?_
        intro w9 gl2 capl2 spl2 H9 hcl2 hqc2 hgl2
        refine ops_nil ?_
        refine ⟨fun hne => H9.pick [0, 1, 2, 3, 4] (by decide), ?_⟩
        refine nZ55 ?_
        refine mixz_p rfl ?_
        refine mix1_val (fun wz hz => ex_nilCheck rfl) ?_
        refine mixz_o rfl ?_
        refine ops_store1 ty26 H9 4 rfl rfl rfl rfl (by rw [putAt_len (by simpa using hfit)]; omega) rfl ?_
        intro w10 HS0
        have hset2 : (putAt cs o [Value.slice (hd gl) q capl]).set o (Value.slice (hd gl2) (q + 1) capl2) = putAt cs o [Value.slice (hd gl2) (q + 1) capl2] := by
          apply List.ext_getElem?
          intro j
          rw [List.getElem?_set, putAt_len (by simpa using hfit), putAt_get (by simpa using hfit), putAt_get (by simpa using hfit)]
          by_cases hj : o = j
          · subst hj; rw [if_pos rfl, if_pos (by omega), if_neg (by omega), if_pos (by simp)]; simp
          · rw [if_neg hj]
            split
            · rfl
            · rw [if_neg (by simp; omega), if_neg (by simp; omega)]
        have H10 := HS0
        refine ops_nil ?_
        refine ⟨fun hne => absurd rfl hne, ?_⟩
        refine nZ55 ?_
        refine mixz_nil ?_
        refine nR55 ?_
        refine run_nil (blk_normal ?_)
        refine run_region ?_
        refine ops_val (ex_move rfl) ?_
        refine ops_val (ex_add rfl rfl (IntWalk.i64_in _ (by omega))) ?_
        refine ops_val (ex_assign rfl) ?_
        refine ops_nil ?_
        refine nR55 ?_
        refine run_nil (rnd_normal ?_)
        have h1 := H10.pick [0, 1, 2, 4, 5] (by decide)
        rw [hset2] at h1
        have HR := (show ∀ (wa wb : World) (SS : List Nat), Hp wa wb SS ((vr gp gr gb cb sb b i2 e2 ++ [(some go, U, putAt cs o [Value.slice (hd gl2) (q + 1) capl2])]) ++ [(gl2, 77, (uc ++ us) ++ spl2)]) → Hp wa wb SS ((vr gp gr gb cb sb b i2 e2 ++ [(some go, U, putAt cs o [Value.slice (hd gl2) (q + 1) capl2])]) ++ [(gl2, 77, (uc ++ us) ++ spl2)]) from fun _ _ _ h => h) _ _ _ h1
        refine ⟨nn - (q + 1), by omega, q + 1, _, i2, e2, xs ++ [xv], uc ++ us, spl2, gl2, capl2, rfl, (fs (fs (fn (fn (fn (fs (fs (fn (fn (fn (fn (fn (fn (fn (fn (fn (fn (fn (fn (fn (fn (fn (fn (fn (fn (fn (fn (fn (fn (fn (fn (fn (fn (fn (fn (fn (fn (fn (fn (fn (fn (fn (fn (fn (fn (fn (fn (fn (fn (fn (fn (fn (fn (fn (fn f0))))))))))))))))))))))))))))))))))))))))))))))))))))))), rfl, by omega, by simp [hxs], ?_, hi2, by rw [List.length_append, hul, hus]; show q * 2 + 2 = (q + 1) * 2; omega, by rw [List.all_append, huo, huno]; rfl, hqc2, hcl2, hgl2, (HB.all HC).all HR, ?_⟩
        · rw [hrd, rdN_step hql he1 hx, List.append_assoc]; rfl
        · intro h0 j hj
          simp only [List.length_append, List.length_cons, List.length_nil] at hj
          by_cases hjq : j < xs.length
          · rw [List.getElem_append_left hjq]
            have hd1 : ((uc ++ us).drop (j * 2)).take 2 = (uc.drop (j * 2)).take 2 := by
              have h1 : (j + 1) * 2 ≤ q * 2 := Nat.mul_le_mul_right _ (by omega)
              rw [List.drop_append_of_le_length (by omega), List.take_append_of_le_length (by rw [List.length_drop]; omega)]
            rw [hd1]
            exact Fr.to (hel he1 j hjq) HR
          · have hjj : j = xs.length := by omega
            subst hjj
            rw [List.getElem_append_right (Nat.le_refl _)]
            have hd2 : ((uc ++ us).drop (xs.length * 2)).take 2 = us := by
              rw [hxs, ← hul, List.drop_left]
              exact List.take_of_length_le (Nat.le_of_eq hus)
            simp only [Nat.sub_self, List.getElem_cons_zero]
            rw [hd2]
            exact Fr.to (hMx h0) HR
      · have he1 : e1 ≠ 0 := by simpa using hb28
        refine run_exit ?_
        refine rnd_exit ?_
        refine blk_exit ?_
        refine run_nil ?_
        refine fin_end0 rfl ?_
        have hrw : (Th.many thend false).rd b i e = (xs, i1, e1) := by rw [hmr, hrd]; first | (rw [rdN_bad _ _ _ he1]; simp) | (simp [rdN])
        unfold RdOut
        rw [hrw]
        have HF : Hp w0 w4 _ ((vr gp gr gb cb sb b i1 e1 ++ [(some go, U, putAt cs o [Value.slice (hd gl) q capl])]) ++ [(gl, 77, uc ++ spl)]) := H4
        refine ⟨[Value.slice (hd gl) q capl], rfl, rfl, HF.less, fun h0 => ⟨hd gl, capl, uc, by rw [hxs], ⟨by rw [hxs]; omega, fun _ => by decide⟩, by rw [hxs]; exact HF.rd (i := 4) (o := gl) (xs := uc) (sp := spl) rfl hul (by decide), fun _ p hp => ⟨place_new HF rfl (i := 0) rfl p hp, row_apart HF (i := 0) rfl p hp, HF.tw (i := 4) rfl p hp⟩, fun _ _ p hp => HF.tw (i := 4) rfl p hp, fun j hj => thend.mono (hel h0 j hj) (fun p hp => ⟨hp.1, fun hq => hp.2.1 (show p ∈ bl ((vr gp gr gb cb sb b i1 e1 ++ [(some go, U, putAt cs o [Value.slice (hd gl) q capl])]) ++ [(gl, 77, uc ++ spl)]) from bl_left hq), hp.2.2⟩)⟩⟩
    · have hqm : q = nn := by omega
      subst hqm
      refine ops_val (ex_move rfl) ?_
      refine nO55 ?_
      refine ops_no rfl ?_
      refine ops_no rfl ?_
      refine ops_val (ex_pick_f rfl rfl) ?_
      refine ops_nil ?_
      refine nR55 ?_
      refine run_cond_false rfl ?_
      refine run_exit ?_
      refine rnd_exit ?_
      refine blk_exit ?_
      refine run_nil ?_
      refine fin_end0 rfl ?_
      have hrw : (Th.many thend false).rd b i e = (xs, i1, e1) := by rw [hmr, hrd]; first | (rw [rdN_bad _ _ _ he1]; simp) | (simp [rdN])
      unfold RdOut
      rw [hrw]
      have HF : Hp w0 w3 _ ((vr gp gr gb cb sb b i1 e1 ++ [(some go, U, putAt cs o [Value.slice (hd gl) q capl])]) ++ [(gl, 77, uc ++ spl)]) := H3
      refine ⟨[Value.slice (hd gl) q capl], rfl, rfl, HF.less, fun h0 => ⟨hd gl, capl, uc, by rw [hxs], ⟨by rw [hxs]; omega, fun _ => by decide⟩, by rw [hxs]; exact HF.rd (i := 4) (o := gl) (xs := uc) (sp := spl) rfl hul (by decide), fun _ p hp => ⟨place_new HF rfl (i := 0) rfl p hp, row_apart HF (i := 0) rfl p hp, HF.tw (i := 4) rfl p hp⟩, fun _ _ p hp => HF.tw (i := 4) rfl p hp, fun j hj => thend.mono (hel h0 j hj) (fun p hp => ⟨hp.1, fun hq => hp.2.1 (show p ∈ bl ((vr gp gr gb cb sb b i1 e1 ++ [(some go, U, putAt cs o [Value.slice (hd gl) q capl])]) ++ [(gl, 77, uc ++ spl)]) from bl_left hq), hp.2.2⟩)⟩⟩
theorem vlend_R : WalkR Tryz.prog 53 (Th.many thend false) := vlend_r
end Go.Proofs.YtoeobicpdeklaaaGreat
