/- Walks of layer 2, printed by wip/gen/codec.py. -/
import Derived.Test.YtoeobicpdeklaaaGreatNrm
import Derived.Test.YtoeobicpdeklaaaGreatLst
import Derived.Test.YtoeobicpdeklaaaGreatWireE
namespace Go.Proofs.YtoeobicpdeklaaaGreat
open Go Go.RowKit
set_option linter.unusedVariables false
attribute [local irreducible] Still Ops Does Cd
set_option maxRecDepth 100000 in
set_option maxHeartbeats 4000000 in
theorem plholder_w (gp : Nat) (g0 : Option Nat) (cap0 : Nat) (sp0 : List Value) (st : WS) (a : Addr) (x : List thholder.X) (vs : List Value) (w0 : World) (H0 : Hp w0 w0 (bl (pw gp g0 cap0 sp0 st)) (pw gp g0 cap0 sp0 st)) (hP : POk 65536 g0 cap0 sp0 st) (hM : (Th.many thholder false).M w0 (fun b => b ∉ bl (pw gp g0 cap0 sp0 st)) x vs) (hC : Cl w0 (bl (pw gp g0 cap0 sp0 st)) a vs) :
    Does Tryz.prog 70 #[.pointer (some ⟨gp, 0, none⟩), .pointer (some a), .func (.func 71) [.pointer (some ⟨gp, 0, none⟩)].toArray #[]] w0 (fun _ w' => PwOut gp (wAll ((Th.many thholder false).fl x) st) w0 (bl (pw gp g0 cap0 sp0 st)) w') := by
  refine does_of Tryz.func70 Tryz.ntmps70 rfl ?_
  refine nR80 ?_
  have H := H0
  obtain ⟨B, c, cells, rfl, hz, hrd, hap, ht, hel⟩ := hM
  have hcq : w0.cell? a = some (.slice B x.length c) := by have := hC.cell 0 _ rfl; rwa [Addr.add_zero'] at this
  have hbq := hC.apart (by simp)
  refine run_seq ?_
  refine run_seq ?_
  refine run_region ?_
  refine ops_val (ex_move rfl) ?_
  have hk := pstop_w gp g0 cap0 sp0 st _ H.here
  refine ops_call_val (ex_call gf63 rfl) hk ?_
  intro w1 Hd
  have H1 := H.all Hd
  refine ops_nil ?_
  refine nR80 ?_
  refine run_cond rfl (fun hb11 => ?_) (fun hb11 => ?_)
  · skip
    refine run_ret ?_
    refine fin_ret0 rfl ?_
    have e : wAll ((Th.many thholder false).fl x) st = st := wAll_long hb11
    rw [e]
    exact ⟨g0, cap0, sp0, hP, H1⟩
  · skip
    refine run_skip ?_
    refine run_seq ?_
    refine run_seq ?_
    refine run_region ?_
    refine ops_val (ex_move rfl) ?_
    refine ops_val (ex_nilCheck rfl) ?_
    refine ops_val (ex_fieldAddr fl80_0 rfl) ?_
    refine ops_val (ex_load ty78 rfl (H1.cell (i := 0) rfl rfl)) ?_
    refine nO80 ?_
    refine ops_true (ex_eql_nil_ptr Tryz.underlying78 rfl) (rfl) ?_
    refine ops_nil ?_
    refine nR80 ?_
    refine run_cond_true rfl ?_
    refine run_seq ?_
    refine run_seq ?_
    refine run_region ?_
    refine ops_val (ex_move rfl) ?_
    refine ops_val (ex_nilCheck rfl) ?_
    refine ops_val (ex_load ty90 rfl (cell_to hcq H1 hbq)) ?_
    refine ops_val (ex_len_slice Tryz.underlying90 rfl) ?_
    refine nO80 ?_
    refine ops_test (ex_gtr rfl rfl) (fun hp21 => ?_) (fun hp21 => ?_)
    · skip
      refine ops_nil ?_
      refine nR80 ?_
      refine run_cond_true rfl ?_
      refine run_seq ?_
      refine run_region ?_
      refine ops_val (ex_move rfl) ?_
      refine ops_val (ex_nilCheck rfl) ?_
      refine ops_val (ex_fieldAddr fl80_2 rfl) ?_
      refine ops_store1 ty4 H1 0 rfl rfl rfl rfl (by first | decide | simp) rfl ?_
      intro w2 H2
      refine ops_nil ?_
      refine nR80 ?_
      refine run_ret ?_
      refine fin_ret0 rfl ?_
      have e := wl_too (A := thholder) false hb11 (x := x) (by omega)
      rw [e]
      exact ⟨g0, cap0, sp0, ⟨hP.1, hP.2, hP.3, hP.4⟩, H2⟩
    · have hzero : wl thholder x 0 st = wPut (enc x.length) st := by rw [wl_zero]; exact wFld_put hb11 (by simp [tooLong]; omega)
      refine ops_nil ?_
      refine nR80 ?_
      refine run_cond_false rfl ?_
      refine run_skip ?_
      refine run_seq ?_
      refine run_region ?_
      refine ops_val (ex_move rfl) ?_
      refine ops_val (ex_move rfl) ?_
      refine ops_val (ex_nilCheck rfl) ?_
      refine ops_val (ex_load ty90 rfl (cell_to hcq H1 hbq)) ?_
      refine nO80 ?_
      refine ops_val (ex_len_slice Tryz.underlying90 rfl) ?_
      refine ops_val (ex_conv Tryz.underlying136 Tryz.underlying3 rfl (IntWalk.u64_in _ (by omega))) ?_
      have hxl : (enc x.length).length ≤ 1000000000 := by have := enc_len64 (v := x.length) (by omega); omega
      refine ops_call_own (ex_call gf68 rfl) (num_any x.length _ (by omega)) ?_
      intro w2 g1 c1 sp1 hm1 hc1 hg1 Hd
      have H2 := H1.call0 Hd
      have HQ : Hp w0 w2 _ (pw gp g0 cap0 sp0 st ++ [(g1, 5, u8s (enc x.length) ++ sp1)]) := H2
      have hk := pput_w gp g0 cap0 sp0 st _ (HQ.less (es := pw gp g0 cap0 sp0 st) (R := [(g1, 5, u8s (enc x.length) ++ sp1)])).here hP (hd g1) (enc x.length) c1 (HQ.rd (i := 2) (o := g1) (xs := u8s (enc x.length)) (sp := sp1) rfl (u8s_length1 _) (by decide)) (row_apart HQ (i := 0) rfl) hxl
      refine ops_call (ex_call gf64 rfl) hk ?_
      rintro _ w3 ⟨g, cap, sp, hP2, Hd⟩
      have H3 := Hp.less (es := pw gp g cap sp _) (R := [(g1, 5, u8s (enc x.length) ++ sp1)]) (HQ.front Hd)
      refine ops_nil ?_
      refine nR80 ?_
      refine run_seq ?_
      refine run_seq ?_
      refine run_region ?_
      refine ops_val (ex_assign rfl) ?_
      refine ops_nil ?_
      refine nR80 ?_
      refine run_block ?_
      refine run_loop (fun n l w => ∃ (q : Nat) (y : Int) (g : Option Nat) (cap : Nat) (sp : List Value), x.length - q = n ∧ Fits [some (.pointer (some ⟨gp, 0, none⟩)), some (.pointer (some a)), some (.func (.func 71) [.pointer (some ⟨gp, 0, none⟩)].toArray #[]), none, none, none, some (.int .i64 y), none, none, none, none, none, none, none, none, none, none, none, none, none, none, none, none, none, none, none, none, none, none, none, none, none, none, none, none, none, none, none, none, none, none, none, none, none, none, none, none, none, none, none, none, none, none, none, none, none, none, none, none, none, none, none, none, none, none, none, none, none, none, none, none, none, none, none, none, none, none, none, none, none] l ∧ y = q ∧ q ≤ x.length ∧ POk 65536 g cap sp (wl thholder x q st) ∧ Hp w0 w (bl (pw gp g0 cap0 sp0 st)) (pw gp g cap sp (wl thholder x q st))) (x.length) ?_ ?_
      · exact ⟨0, _, g, cap, sp, rfl, (fs (fs (fs (fn (fn (fn (fs (fn (fn (fn (fn (fn (fn (fn (fn (fn (fn (fn (fn (fn (fn (fn (fn (fn (fn (fn (fn (fn (fn (fn (fn (fn (fn (fn (fn (fn (fn (fn (fn (fn (fn (fn (fn (fn (fn (fn (fn (fn (fn (fn (fn (fn (fn (fn (fn (fn (fn (fn (fn (fn (fn (fn (fn (fn (fn (fn (fn (fn (fn (fn (fn (fn (fn (fn (fn (fn (fn (fn (fn (fn f0)))))))))))))))))))))))))))))))))))))))))))))))))))))))))))))))))))))))))))))))), rfl, Nat.zero_le _, by rw [hzero]; exact hP2, by rw [hzero]; exact H3⟩
      · rintro n l w4 ⟨q, y, g, cap, sp, rfl, hfit, rfl, hq, hP, H4⟩
        obtain ⟨j, rfl⟩ := hfit.open
        refine nR80 ?_
        clear hfit
        refine run_seq ?_
        refine run_seq ?_
        refine run_region ?_
        refine ops_val (ex_move rfl) ?_
        refine ops_val (ex_move rfl) ?_
        refine ops_val (ex_nilCheck rfl) ?_
        refine ops_val (ex_load ty90 rfl (cell_to hcq H4 hbq)) ?_
        refine nO80 ?_
        refine ops_val (ex_len_slice Tryz.underlying90 rfl) ?_
        refine ops_test (ex_lss rfl rfl) (fun hp38 => ?_) (fun hp38 => ?_)
        · have hql : q < x.length := by omega
          obtain ⟨⟨so, sl⟩, hst⟩ : ∃ s, wl thholder x q st = s := ⟨_, rfl⟩
          rw [hst] at hP H4
          refine ops_val (ex_move rfl) ?_
          refine nO80 ?_
          refine ops_yes rfl ?_
          refine ops_val (ex_move rfl) ?_
          refine ops_yes rfl ?_
          refine ops_val (ex_nilCheck rfl) ?_
          refine nO80 ?_
          refine ops_yes rfl ?_
          refine ops_val (ex_fieldAddr fl80_2 rfl) ?_
          refine ops_yes rfl ?_
          refine ops_val (ex_load ty4 rfl (H4.cell (i := 0) rfl rfl)) ?_
          refine nO80 ?_
          refine ops_yes rfl ?_
          refine ops_val (ex_not rfl) ?_
          refine ops_val (ex_pick_t rfl rfl) ?_
          refine ops_nil ?_
          refine nR80 ?_
          refine run_cond rfl (fun hb45 => ?_) (fun hb45 => ?_)
          · have hsl : sl = false := by simpa using hb45
            subst hsl
            refine run_skip ?_
            refine run_seq ?_
            refine run_block ?_
            refine run_region ?_
            refine ops_val (ex_move rfl) ?_
            refine ops_val (ex_move rfl) ?_
            refine ops_val (ex_nilCheck rfl) ?_
            refine ops_val (ex_load ty90 rfl (cell_to hcq H4 hbq)) ?_
            refine nO80 ?_
            refine ops_val (ex_move rfl) ?_
            obtain ⟨pa, hpa⟩ := hrd.some_ (by omega)
            subst hpa
            refine ops_val (ex_idx Tryz.underlying90 ty141 rfl rfl rfl hql rfl) ?_
            have hpb := hap (by omega) pa rfl
            have hMq := thholder.to (hel q hql) H4 (fun _ h => h)
            refine ops_call (ex_call_bound gf71 rfl rfl) (pholder_W gp g cap sp _ (pa.add (q * 4)) x[q] _ _ H4.here hP (thholder.mono hMq fun _ h => h.2) ((elem_cl hrd hql hpb).to H4) (fun h => by cases h)) ?_
            rintro _ w5 ⟨g, cap, sp, hP2, Hd⟩
            have H5 := H4.all Hd
            refine ops_nil ?_
            refine nR80 ?_
            refine run_nil (blk_normal ?_)
            refine run_region ?_
            refine ops_val (ex_move rfl) ?_
            refine ops_val (ex_add rfl rfl (IntWalk.i64_in _ (by omega))) ?_
            refine ops_val (ex_assign rfl) ?_
            refine ops_nil ?_
            refine nR80 ?_
            refine run_nil (rnd_normal ?_)
            exact ⟨x.length - (q + 1), by omega, q + 1, _, g, cap, sp, rfl, (fs (fs (fs (fn (fn (fn (fs (fn (fn (fn (fn (fn (fn (fn (fn (fn (fn (fn (fn (fn (fn (fn (fn (fn (fn (fn (fn (fn (fn (fn (fn (fn (fn (fn (fn (fn (fn (fn (fn (fn (fn (fn (fn (fn (fn (fn (fn (fn (fn (fn (fn (fn (fn (fn (fn (fn (fn (fn (fn (fn (fn (fn (fn (fn (fn (fn (fn (fn (fn (fn (fn (fn (fn (fn (fn (fn (fn (fn (fn (fn f0)))))))))))))))))))))))))))))))))))))))))))))))))))))))))))))))))))))))))))))))), rfl, by omega, by rw [wl_succ hql, hst]; exact hP2, by rw [wl_succ hql, hst]; exact H5⟩
          · have hsl : sl = true := by simpa using hb45
            subst hsl
            refine run_exit ?_
            refine rnd_exit ?_
            refine blk_exit ?_
            refine run_ret ?_
            refine fin_ret0 rfl ?_
            have e := wl_stop (A := thholder) false (x := x) (q := q) (st := st) (by rw [hst])
            rw [e, hst]
            exact ⟨g, cap, sp, hP, H4⟩
        · have hqm : q = x.length := by omega
          subst hqm
          refine ops_val (ex_move rfl) ?_
          refine nO80 ?_
          refine ops_no rfl ?_
          refine ops_no rfl ?_
          refine nO80 ?_
          refine ops_no rfl ?_
          refine ops_no rfl ?_
          refine nO80 ?_
          refine ops_no rfl ?_
          refine ops_val (ex_pick_f rfl rfl) ?_
          refine ops_nil ?_
          refine nR80 ?_
          refine run_cond_false rfl ?_
          refine run_exit ?_
          refine rnd_exit ?_
          refine blk_exit ?_
          refine run_ret ?_
          refine fin_ret0 rfl ?_
          rw [wl_all thholder false] at hP H4
          exact ⟨g, cap, sp, hP, H4⟩
theorem plholder_W : PenWL Tryz.prog 70 71 (Th.many thholder false) := plholder_w
set_option maxRecDepth 100000 in
set_option maxHeartbeats 4000000 in
theorem plholder_r (gp gr : Nat) (gb : Option Nat) (cb : Nat) (sb : List Value) (b : List UInt8) (hcb : b.length ≤ cb) (hbl : b.length ≤ 65536) (go o i e : Nat) (U : TypeId) (cs : List Value) (w0 : World) (H0 : Hp w0 w0 (bl (pr gp gr gb cb sb b i e ++ [(some go, U, cs)])) (pr gp gr gb cb sb b i e ++ [(some go, U, cs)])) (hi : i ≤ b.length) (hat : At cs o (Th.many thholder false).zs) (hfit : o + (Th.many thholder false).sz ≤ cs.length) :
    Does Tryz.prog 70 #[.pointer (some ⟨gp, 0, none⟩), .pointer (some ⟨go, o, none⟩), .func (.func 71) [.pointer (some ⟨gp, 0, none⟩)].toArray #[]] w0 (fun _ w' => RdOut (pr gp gr gb cb sb b) (Th.many thholder false) go o U cs b i e w0.heap.size w0 (bl (pr gp gr gb cb sb b i e ++ [(some go, U, cs)])) w') := by
  refine does_of Tryz.func70 Tryz.ntmps70 rfl ?_
  refine nR80 ?_
  have H := H0
  change o + 1 ≤ cs.length at hfit
  have hcq : cs[o]? = some (Value.slice none 0 0) := by have := hat 0 _ rfl; rwa [Nat.add_zero] at this
  have hrow : putAt cs o [Value.slice none 0 0] = cs := putAt_same hat (by simpa using hfit)
  refine run_seq ?_
  refine run_seq ?_
  refine run_region ?_
  refine ops_val (ex_move rfl) ?_
  have hk := pstop_r gp gr gb cb sb b i e _ (Hp.less (es := pr gp gr gb cb sb b i e) (R := [(some go, U, cs)]) H).here hcb hbl hi
  refine ops_call_val (ex_call gf63 rfl) hk ?_
  intro w1 Hd
  have H1 := Hp.front (R := [(some go, U, cs)]) H Hd
  refine ops_nil ?_
  refine nR80 ?_
  refine run_cond rfl (fun hb11 => ?_) (fun hb11 => ?_)
  · have hbe : e ≠ 0 := by simpa using hb11
    refine run_ret ?_
    refine fin_ret0 rfl ?_
    have hbd := (Th.many thholder false).bad (b := b) (i := i) hbe
    unfold RdOut
    rw [hbd]
    refine ⟨[Value.slice none 0 0], rfl, rfl, by rw [hrow]; exact H1, fun h => absurd h hbe⟩
  · have hbe : e = 0 := by simpa using hb11
    refine run_skip ?_
    refine run_seq ?_
    refine run_seq ?_
    refine run_region ?_
    refine ops_val (ex_move rfl) ?_
    refine ops_val (ex_nilCheck rfl) ?_
    refine ops_val (ex_fieldAddr fl80_0 rfl) ?_
    refine ops_val (ex_load ty78 rfl (H1.cell (i := 0) rfl rfl)) ?_
    refine nO80 ?_
    refine ops_false (ex_eql_nil_ptr Tryz.underlying78 rfl) (by simp) ?_
    refine ops_nil ?_
    refine nR80 ?_
    refine run_cond_false rfl ?_
    refine run_skip ?_
    refine run_seq ?_
    refine run_region ?_
    refine ops_val (ex_move rfl) ?_
    refine ops_val (ex_nilCheck rfl) ?_
    refine ops_val (ex_fieldAddr fl80_0 rfl) ?_
    refine ops_val (ex_load ty78 rfl (H1.cell (i := 0) rfl rfl)) ?_
    refine nO80 ?_
    obtain ⟨⟨nn, ic, ec⟩, hcn⟩ : ∃ s, countStep b 1024 i e = s := ⟨_, rfl⟩
    have hcb2 := countStep_le (b := b) (most := 1024) (i := i) (e := e) hi
    have hic := hcb2.1
    have hn3 := hcb2.2.2.1
    rw [hcn] at hic hn3
    simp only at hic hn3
    have hnn : nn ≤ 1024 := by have : ((nn : Nat) : Int) ≤ max 1024 0 := hn3; omega
    have hmr : (Th.many thholder false).rd b i e = rdN thholder b nn ic ec := by
      show rdN thholder b (countStep b 1024 i e).1 (countStep b 1024 i e).2.1 (countStep b 1024 i e).2.2 = _
      rw [hcn]
    have hk := count_rd gr (hd gb) cb b i e _ (rdr_of H1 (j := 1) (k := 2) rfl rfl (by decide) hcb (by omega) hi) 1024 (by decide) (by decide)
    rw [hcn] at hk
    refine ops_call_val (ex_call gf69 rfl) hk ?_
    intro w2 Hd
    have HN0 := (H1.call1 (i := 1) rfl Hd).pick [0, 4, 2, 3] (by decide)
    have H2 : Hp w0 w2 (bl (pr gp gr gb cb sb b i e ++ [(some go, U, cs)])) (pr gp gr gb cb sb b ic ec ++ [(some go, U, putAt cs o [Value.slice none 0 0])]) := by rw [hrow]; exact HN0
    refine ops_val (ex_assign rfl) ?_
    refine ops_nil ?_
    refine nR80 ?_
    refine run_seq ?_
    refine run_region ?_
    refine ops_val (ex_assign rfl) ?_
    refine ops_nil ?_
    refine nR80 ?_
    refine run_block ?_
    refine run_loop (fun n l w => ∃ (q : Nat) (y : Int) (i1 e1 : Nat) (xs : List thholder.X) (uc spl : List Value) (gl : Option Nat) (capl : Nat), nn - q = n ∧ Fits [some (.pointer (some ⟨gp, 0, none⟩)), some (.pointer (some ⟨go, o, none⟩)), some (.func (.func 71) [.pointer (some ⟨gp, 0, none⟩)].toArray #[]), none, none, none, none, some (.int .i64 (nn : Int)), some (.int .i64 y), none, none, none, none, none, none, none, none, none, none, none, none, none, none, none, none, none, none, none, none, none, none, none, none, none, none, none, none, none, none, none, none, none, none, none, none, none, none, none, none, none, none, none, none, none, none, none, none, none, none, none, none, none, none, none, none, none, none, none, none, none, none, none, none, none, none, none, none, none, none, none] l ∧ y = q ∧ q ≤ nn ∧ xs.length = q ∧ rdN thholder b nn ic ec = (xs ++ (rdN thholder b (nn - q) i1 e1).1, (rdN thholder b (nn - q) i1 e1).2) ∧ i1 ≤ b.length ∧ uc.length = q * 4 ∧ uc.all (·.oneCell') = true ∧ q ≤ capl ∧ capl * 4 ≤ (uc ++ spl).length ∧ (gl = none → capl = 0) ∧ Hp w0 w (bl (pr gp gr gb cb sb b i e ++ [(some go, U, cs)])) ((pr gp gr gb cb sb b i1 e1 ++ [(some go, U, putAt cs o [Value.slice (hd gl) q capl])]) ++ [(gl, 141, uc ++ spl)]) ∧ (e1 = 0 → ∀ j (hj : j < xs.length), thholder.M w (Fr w w0.heap.size ((pr gp gr gb cb sb b i1 e1 ++ [(some go, U, putAt cs o [Value.slice (hd gl) q capl])]) ++ [(gl, 141, uc ++ spl)])) xs[j] ((uc.drop (j * 4)).take 4))) (nn) ?_ ?_
    · exact ⟨0, _, ic, ec, [], [], [], none, 0, rfl, (fs (fs (fs (fn (fn (fn (fn (fs (fs (fn (fn (fn (fn (fn (fn (fn (fn (fn (fn (fn (fn (fn (fn (fn (fn (fn (fn (fn (fn (fn (fn (fn (fn (fn (fn (fn (fn (fn (fn (fn (fn (fn (fn (fn (fn (fn (fn (fn (fn (fn (fn (fn (fn (fn (fn (fn (fn (fn (fn (fn (fn (fn (fn (fn (fn (fn (fn (fn (fn (fn (fn (fn (fn (fn (fn (fn (fn (fn (fn (fn f0)))))))))))))))))))))))))))))))))))))))))))))))))))))))))))))))))))))))))))))))), rfl, Nat.zero_le _, rfl, rfl, hic, rfl, rfl, Nat.le_refl _, Nat.zero_le _, fun _ => rfl, (H2.nil 141), fun _ j hj => by cases hj⟩
    · rintro n l w3 ⟨q, y, i1, e1, xs, uc, spl, gl, capl, rfl, hfit, rfl, hq, hxs, hrd, hi1, hul, huo, hqc, hcl, hgl, H3, hel⟩
      obtain ⟨j, rfl⟩ := hfit.open
      refine nR80 ?_
      clear hfit
      refine run_seq ?_
      refine run_seq ?_
      refine run_region ?_
      refine ops_val (ex_move rfl) ?_
      refine ops_val (ex_move rfl) ?_
      refine ops_test (ex_lss rfl rfl) (fun hp62 => ?_) (fun hp62 => ?_)
      · have hql : q < nn := by omega
        refine ops_val (ex_move rfl) ?_
        refine nO80 ?_
        refine ops_yes rfl ?_
        refine ops_val (ex_move rfl) ?_
        refine ops_yes rfl ?_
        have HZ : Hp w0 w3 (bl (pr gp gr gb cb sb b i e ++ [(some go, U, cs)])) (pr gp gr gb cb sb b i1 e1 ++ [(some go, U, putAt cs o [Value.slice (hd gl) q capl]), (gl, 141, uc ++ spl)]) := H3
        have hk := pstop_r gp gr gb cb sb b i1 e1 _ (Hp.less (es := pr gp gr gb cb sb b i1 e1) HZ).here hcb hbl hi1
        refine ops_call_val (ex_call gf63 rfl) hk ?_
        intro w4 Hd
        replace hel := fun h0 j hj => Fr.to (hel h0 j hj) (Hp.front (R := [(some go, U, putAt cs o [Value.slice (hd gl) q capl]), (gl, 141, uc ++ spl)]) HZ.here Hd)
        have H4 := Hp.front HZ Hd
        refine nO80 ?_
        refine ops_yes rfl ?_
        refine ops_val (ex_not rfl) ?_
        refine ops_val (ex_pick_t rfl rfl) ?_
        refine ops_nil ?_
        refine nR80 ?_
        refine run_cond rfl (fun hb67 => ?_) (fun hb67 => ?_)
        · have he1 : e1 = 0 := by simpa using hb67
          refine run_skip ?_
          refine run_seq ?_
          refine run_block ?_
          refine run_seq ?_
          refine run_region ?_
          have HB := H4
          replace H4 := HB.here
          refine ops_alloc ty141 H4 ?_
          intro w5 gx H5 hgx
          refine ops_nil ?_
          refine nR80 ?_
          refine run_seq ?_
          refine run_region ?_
          refine ops_val (ex_move rfl) ?_
          have HX : Hp _ w5 _ ((pr gp gr gb cb sb b i1 e1 ++ [(some gx, 141, [.int .i64 0, .int .i64 0, .int .i64 0, .int .i64 0])]) ++ [(some go, U, putAt cs o [Value.slice (hd gl) q capl]), (gl, 141, uc ++ spl)]) := H5.pick [0, 1, 2, 5, 3, 4] (by decide)
          obtain ⟨⟨xv, i2, e2⟩, hx⟩ : ∃ s, thholder.rd b i1 e1 = s := ⟨_, rfl⟩
          have hi2 : i2 ≤ b.length := by have := thholder.le (b := b) (e := e1) hi1; rw [hx] at this; exact this
          refine ops_call (ex_call_bound gf71 rfl rfl) (pholder_R gp gr gb cb sb b hcb hbl gx 0 i1 e1 141 _ _ HX.less.here hi1 (At.self _) (Nat.le_refl _)) ?_
          rintro _ w6 ⟨us, hus, huno, Hd, hMx⟩
          rw [hx] at Hd hMx
          simp only at Hd hMx
          have hpu : putAt [.int .i64 0, .int .i64 0, .int .i64 0, .int .i64 0] 0 us = us := putAt_all hus
          rw [hpu] at Hd hMx
          have hnsz := Nat.le_trans HB.size HX.size
          have HC := HX.front Hd
          replace hMx := fun h0 => thholder.mono (ok' := Fr w6 w0.heap.size ((pr gp gr gb cb sb b i2 e2 ++ [(some gx, 141, us)]) ++ [(some go, U, putAt cs o [Value.slice (hd gl) q capl]), (gl, 141, uc ++ spl)])) (hMx h0) (fun p hp => ⟨by have := hp.1; omega, fun hq => by
            rw [bl_append] at hq
            rcases List.mem_append.1 hq with hq | hq
            · exact hp.2.1 hq
            · have h1 := bl_lt HX (b := p) (by rw [bl_append]; exact List.mem_append_right _ hq)
              have := hp.1
              omega, hp.2.2⟩)
          replace hel := fun h0 j hj => Fr.to (hel h0 j hj) HC
          have H6 := HC.here
          refine ops_nil ?_
          refine nR80 ?_
          refine run_mixZ 8 [(true, 0), (true, 1), (true, 2), (true, 3), (true, 4), (false, 5), (false, 6), (true, 7), (false, 8)] H6 [0, 1, 2, 3, 4] mixed (by decide) (by kernel_rfl) ?_
          rintro w7 hw7
          have H7 := Hp.drew H6; rw [← hw7] at H7
          refine mixz_p rfl ?_
          refine mix1_val (fun wz hz => ex_move rfl) ?_
          refine mixz_p rfl ?_
          refine mix1_val (fun wz hz => ex_move rfl) ?_
          refine mixz_p rfl ?_
          refine mix1_val (fun wz hz => ex_nilCheck rfl) ?_
          refine mixz_p rfl ?_
          refine mix1_val (fun wz hz => ex_load ty90 rfl (hz.cell (i := 4) rfl (show (putAt cs o [Value.slice (hd gl) q capl])[o]? = some (Value.slice (hd gl) q capl) from by rw [putAt_get (by simpa using hfit), if_neg (by omega), if_pos (by simp)]; simp))) ?_
          refine nZ80 ?_
          refine mixz_p rfl ?_
          refine mix1_val (fun wz hz => ex_loadN ty141 rfl (vs := us) hus (hz.cells (i := 3) rfl)) ?_
          refine mixz_o rfl ?_
          refine ops_build1 Tryz.underlying90 ty141 H7 rfl rfl hus (by decide) ?_
          intro w8 gn H8 hgn
          refine ops_nil ?_
          refine ⟨fun hne => H8.pick [0, 1, 2, 3, 4] (by decide), ?_⟩
          refine nZ80 ?_
          refine mixz_o rfl ?_
          refine ops_append Tryz.underlying90 ty141 (by decide) H8 5 (g := gl) (xs := uc) (sp := spl) rfl rfl hul hcl hqc hgl rfl (H8.rd (i := 6) (o := some gn) (xs := us) (sp := []) (by rw [List.append_nil]; rfl) (by rw [hus, Nat.one_mul]; rfl) (by decide)) huno (by omega) (by omega) (by decide) ?_
          intro w9 gl2 capl2 spl2 H9 hcl2 hqc2 hgl2
          refine ops_nil ?_
          refine ⟨fun hne => H9.pick [0, 1, 2, 3, 4] (by decide), ?_⟩
          refine nZ80 ?_
          refine mixz_p rfl ?_
          refine mix1_val (fun wz hz => ex_nilCheck rfl) ?_
          refine mixz_o rfl ?_
          refine ops_store1 ty90 H9 4 rfl rfl rfl rfl (by rw [putAt_len (by simpa using hfit)]; omega) rfl ?_
          intro w10 HS0
          have hset2 : (putAt cs o [Value.slice (hd gl) q capl]).set o (Value.slice (hd gl2) (q + 1) capl2) = putAt cs o [Value.slice (hd gl2) (q + 1) capl2] := by
            apply List.ext_getElem?
            intro j
            rw [List.getElem?_set, putAt_len (by simpa using hfit), putAt_get (by simpa using hfit), putAt_get (by simpa using hfit)]
            by_cases hj : o = j
            · subst hj; rw [if_pos rfl, if_pos (by omega), if_neg (by omega), if_pos (by simp)]; simp
            · rw [if_neg hj]
              split
              · rfl
              · rw [if_neg (by simp; omega), if_neg (by simp; omega)]
          have H10 := HS0
          refine ops_nil ?_
          refine ⟨fun hne => absurd rfl hne, ?_⟩
          refine nZ80 ?_
          refine mixz_nil ?_
          refine nR80 ?_
          refine run_nil (blk_normal ?_)
          refine run_region ?_
          refine ops_val (ex_move rfl) ?_
          refine ops_val (ex_add rfl rfl (IntWalk.i64_in _ (by omega))) ?_
          refine ops_val (ex_assign rfl) ?_
          refine ops_nil ?_
          refine nR80 ?_
          refine run_nil (rnd_normal ?_)
          have h1 := H10.pick [0, 1, 2, 4, 5] (by decide)
          rw [hset2] at h1
          have HR := (show ∀ (wa wb : World) (SS : List Nat), Hp wa wb SS ((pr gp gr gb cb sb b i2 e2 ++ [(some go, U, putAt cs o [Value.slice (hd gl2) (q + 1) capl2])]) ++ [(gl2, 141, (uc ++ us) ++ spl2)]) → Hp wa wb SS ((pr gp gr gb cb sb b i2 e2 ++ [(some go, U, putAt cs o [Value.slice (hd gl2) (q + 1) capl2])]) ++ [(gl2, 141, (uc ++ us) ++ spl2)]) from fun _ _ _ h => h) _ _ _ h1
          refine ⟨nn - (q + 1), by omega, q + 1, _, i2, e2, xs ++ [xv], uc ++ us, spl2, gl2, capl2, rfl, (fs (fs (fs (fn (fn (fn (fn (fs (fs (fn (fn (fn (fn (fn (fn (fn (fn (fn (fn (fn (fn (fn (fn (fn (fn (fn (fn (fn (fn (fn (fn (fn (fn (fn (fn (fn (fn (fn (fn (fn (fn (fn (fn (fn (fn (fn (fn (fn (fn (fn (fn (fn (fn (fn (fn (fn (fn (fn (fn (fn (fn (fn (fn (fn (fn (fn (fn (fn (fn (fn (fn (fn (fn (fn (fn (fn (fn (fn (fn (fn f0)))))))))))))))))))))))))))))))))))))))))))))))))))))))))))))))))))))))))))))))), rfl, by omega, by simp [hxs], ?_, hi2, by rw [List.length_append, hul, hus]; show q * 4 + 4 = (q + 1) * 4; omega, by rw [List.all_append, huo, huno]; rfl, hqc2, hcl2, hgl2, (HB.all HC).all HR, ?_⟩
          · rw [hrd, rdN_step hql he1 hx, List.append_assoc]; rfl
          · intro h0 j hj
            simp only [List.length_append, List.length_cons, List.length_nil] at hj
            by_cases hjq : j < xs.length
            · rw [List.getElem_append_left hjq]
              have hd1 : ((uc ++ us).drop (j * 4)).take 4 = (uc.drop (j * 4)).take 4 := by
                have h1 : (j + 1) * 4 ≤ q * 4 := Nat.mul_le_mul_right _ (by omega)
                rw [List.drop_append_of_le_length (by omega), List.take_append_of_le_length (by rw [List.length_drop]; omega)]
              rw [hd1]
              exact Fr.to (hel he1 j hjq) HR
            · have hjj : j = xs.length := by omega
              subst hjj
              rw [List.getElem_append_right (Nat.le_refl _)]
              have hd2 : ((uc ++ us).drop (xs.length * 4)).take 4 = us := by
                rw [hxs, ← hul, List.drop_left]
                exact List.take_of_length_le (Nat.le_of_eq hus)
              simp only [Nat.sub_self, List.getElem_cons_zero]
              rw [hd2]
              exact Fr.to (hMx h0) HR
        · have he1 : e1 ≠ 0 := by simpa using hb67
          refine run_exit ?_
          refine rnd_exit ?_
          refine blk_exit ?_
          refine run_nil ?_
          refine fin_end0 rfl ?_
          have hrw : (Th.many thholder false).rd b i e = (xs, i1, e1) := by rw [hmr, hrd]; first | (rw [rdN_bad _ _ _ he1]; simp) | (simp [rdN])
          unfold RdOut
          rw [hrw]
          have HF : Hp w0 w4 _ ((pr gp gr gb cb sb b i1 e1 ++ [(some go, U, putAt cs o [Value.slice (hd gl) q capl])]) ++ [(gl, 141, uc ++ spl)]) := H4
          refine ⟨[Value.slice (hd gl) q capl], rfl, rfl, HF.less, fun h0 => ⟨hd gl, capl, uc, by rw [hxs], ⟨by rw [hxs]; omega, fun _ => by decide⟩, by rw [hxs]; exact HF.rd (i := 4) (o := gl) (xs := uc) (sp := spl) rfl hul (by decide), fun _ p hp => ⟨place_new HF rfl (i := 0) rfl p hp, row_apart HF (i := 0) rfl p hp, HF.tw (i := 4) rfl p hp⟩, fun _ _ p hp => HF.tw (i := 4) rfl p hp, fun j hj => thholder.mono (hel h0 j hj) (fun p hp => ⟨hp.1, fun hq => hp.2.1 (show p ∈ bl ((pr gp gr gb cb sb b i1 e1 ++ [(some go, U, putAt cs o [Value.slice (hd gl) q capl])]) ++ [(gl, 141, uc ++ spl)]) from bl_left hq), hp.2.2⟩)⟩⟩
      · have hqm : q = nn := by omega
        subst hqm
        refine ops_val (ex_move rfl) ?_
        refine nO80 ?_
        refine ops_no rfl ?_
        refine ops_no rfl ?_
        refine nO80 ?_
        refine ops_no rfl ?_
        refine ops_val (ex_pick_f rfl rfl) ?_
        refine ops_nil ?_
        refine nR80 ?_
        refine run_cond_false rfl ?_
        refine run_exit ?_
        refine rnd_exit ?_
        refine blk_exit ?_
        refine run_nil ?_
        refine fin_end0 rfl ?_
        have hrw : (Th.many thholder false).rd b i e = (xs, i1, e1) := by rw [hmr, hrd]; first | (rw [rdN_bad _ _ _ he1]; simp) | (simp [rdN])
        unfold RdOut
        rw [hrw]
        have HF : Hp w0 w3 _ ((pr gp gr gb cb sb b i1 e1 ++ [(some go, U, putAt cs o [Value.slice (hd gl) q capl])]) ++ [(gl, 141, uc ++ spl)]) := H3
        refine ⟨[Value.slice (hd gl) q capl], rfl, rfl, HF.less, fun h0 => ⟨hd gl, capl, uc, by rw [hxs], ⟨by rw [hxs]; omega, fun _ => by decide⟩, by rw [hxs]; exact HF.rd (i := 4) (o := gl) (xs := uc) (sp := spl) rfl hul (by decide), fun _ p hp => ⟨place_new HF rfl (i := 0) rfl p hp, row_apart HF (i := 0) rfl p hp, HF.tw (i := 4) rfl p hp⟩, fun _ _ p hp => HF.tw (i := 4) rfl p hp, fun j hj => thholder.mono (hel h0 j hj) (fun p hp => ⟨hp.1, fun hq => hp.2.1 (show p ∈ bl ((pr gp gr gb cb sb b i1 e1 ++ [(some go, U, putAt cs o [Value.slice (hd gl) q capl])]) ++ [(gl, 141, uc ++ spl)]) from bl_left hq), hp.2.2⟩)⟩⟩
theorem plholder_R : PenRL Tryz.prog 70 71 (Th.many thholder false) := plholder_r
set_option maxRecDepth 100000 in
set_option maxHeartbeats 4000000 in
theorem plwait_w (gp : Nat) (g0 : Option Nat) (cap0 : Nat) (sp0 : List Value) (st : WS) (a : Addr) (x : List thwait.X) (vs : List Value) (w0 : World) (H0 : Hp w0 w0 (bl (pw gp g0 cap0 sp0 st)) (pw gp g0 cap0 sp0 st)) (hP : POk 65536 g0 cap0 sp0 st) (hM : (Th.many thwait false).M w0 (fun b => b ∉ bl (pw gp g0 cap0 sp0 st)) x vs) (hC : Cl w0 (bl (pw gp g0 cap0 sp0 st)) a vs) :
    Does Tryz.prog 36 #[.pointer (some ⟨gp, 0, none⟩), .pointer (some a), .func (.func 37) [.pointer (some ⟨gp, 0, none⟩)].toArray #[]] w0 (fun _ w' => PwOut gp (wAll ((Th.many thwait false).fl x) st) w0 (bl (pw gp g0 cap0 sp0 st)) w') := by
  refine does_of Tryz.func36 Tryz.ntmps36 rfl ?_
  refine nR80 ?_
  have H := H0
  obtain ⟨B, c, cells, rfl, hz, hrd, hap, ht, hel⟩ := hM
  have hcq : w0.cell? a = some (.slice B x.length c) := by have := hC.cell 0 _ rfl; rwa [Addr.add_zero'] at this
  have hbq := hC.apart (by simp)
  refine run_seq ?_
  refine run_seq ?_
  refine run_region ?_
  refine ops_val (ex_move rfl) ?_
  have hk := pstop_w gp g0 cap0 sp0 st _ H.here
  refine ops_call_val (ex_call gf63 rfl) hk ?_
  intro w1 Hd
  have H1 := H.all Hd
  refine ops_nil ?_
  refine nR80 ?_
  refine run_cond rfl (fun hb11 => ?_) (fun hb11 => ?_)
  · skip
    refine run_ret ?_
    refine fin_ret0 rfl ?_
    have e : wAll ((Th.many thwait false).fl x) st = st := wAll_long hb11
    rw [e]
    exact ⟨g0, cap0, sp0, hP, H1⟩
  · skip
    refine run_skip ?_
    refine run_seq ?_
    refine run_seq ?_
    refine run_region ?_
    refine ops_val (ex_move rfl) ?_
    refine ops_val (ex_nilCheck rfl) ?_
    refine ops_val (ex_fieldAddr fl80_0 rfl) ?_
    refine ops_val (ex_load ty78 rfl (H1.cell (i := 0) rfl rfl)) ?_
    refine nO80 ?_
    refine ops_true (ex_eql_nil_ptr Tryz.underlying78 rfl) (rfl) ?_
    refine ops_nil ?_
    refine nR80 ?_
    refine run_cond_true rfl ?_
    refine run_seq ?_
    refine run_seq ?_
    refine run_region ?_
    refine ops_val (ex_move rfl) ?_
    refine ops_val (ex_nilCheck rfl) ?_
    refine ops_val (ex_load ty24 rfl (cell_to hcq H1 hbq)) ?_
    refine ops_val (ex_len_slice Tryz.underlying24 rfl) ?_
    refine nO80 ?_
    refine ops_test (ex_gtr rfl rfl) (fun hp21 => ?_) (fun hp21 => ?_)
    · skip
      refine ops_nil ?_
      refine nR80 ?_
      refine run_cond_true rfl ?_
      refine run_seq ?_
      refine run_region ?_
      refine ops_val (ex_move rfl) ?_
      refine ops_val (ex_nilCheck rfl) ?_
      refine ops_val (ex_fieldAddr fl80_2 rfl) ?_
      refine ops_store1 ty4 H1 0 rfl rfl rfl rfl (by first | decide | simp) rfl ?_
      intro w2 H2
      refine ops_nil ?_
      refine nR80 ?_
      refine run_ret ?_
      refine fin_ret0 rfl ?_
      have e := wl_too (A := thwait) false hb11 (x := x) (by omega)
      rw [e]
      exact ⟨g0, cap0, sp0, ⟨hP.1, hP.2, hP.3, hP.4⟩, H2⟩
    · have hzero : wl thwait x 0 st = wPut (enc x.length) st := by rw [wl_zero]; exact wFld_put hb11 (by simp [tooLong]; omega)
      refine ops_nil ?_
      refine nR80 ?_
      refine run_cond_false rfl ?_
      refine run_skip ?_
      refine run_seq ?_
      refine run_region ?_
      refine ops_val (ex_move rfl) ?_
      refine ops_val (ex_move rfl) ?_
      refine ops_val (ex_nilCheck rfl) ?_
      refine ops_val (ex_load ty24 rfl (cell_to hcq H1 hbq)) ?_
      refine nO80 ?_
      refine ops_val (ex_len_slice Tryz.underlying24 rfl) ?_
      refine ops_val (ex_conv Tryz.underlying136 Tryz.underlying3 rfl (IntWalk.u64_in _ (by omega))) ?_
      have hxl : (enc x.length).length ≤ 1000000000 := by have := enc_len64 (v := x.length) (by omega); omega
      refine ops_call_own (ex_call gf68 rfl) (num_any x.length _ (by omega)) ?_
      intro w2 g1 c1 sp1 hm1 hc1 hg1 Hd
      have H2 := H1.call0 Hd
      have HQ : Hp w0 w2 _ (pw gp g0 cap0 sp0 st ++ [(g1, 5, u8s (enc x.length) ++ sp1)]) := H2
      have hk := pput_w gp g0 cap0 sp0 st _ (HQ.less (es := pw gp g0 cap0 sp0 st) (R := [(g1, 5, u8s (enc x.length) ++ sp1)])).here hP (hd g1) (enc x.length) c1 (HQ.rd (i := 2) (o := g1) (xs := u8s (enc x.length)) (sp := sp1) rfl (u8s_length1 _) (by decide)) (row_apart HQ (i := 0) rfl) hxl
      refine ops_call (ex_call gf64 rfl) hk ?_
      rintro _ w3 ⟨g, cap, sp, hP2, Hd⟩
      have H3 := Hp.less (es := pw gp g cap sp _) (R := [(g1, 5, u8s (enc x.length) ++ sp1)]) (HQ.front Hd)
      refine ops_nil ?_
      refine nR80 ?_
      refine run_seq ?_
      refine run_seq ?_
      refine run_region ?_
      refine ops_val (ex_assign rfl) ?_
      refine ops_nil ?_
      refine nR80 ?_
      refine run_block ?_
      refine run_loop (fun n l w => ∃ (q : Nat) (y : Int) (g : Option Nat) (cap : Nat) (sp : List Value), x.length - q = n ∧ Fits [some (.pointer (some ⟨gp, 0, none⟩)), some (.pointer (some a)), some (.func (.func 37) [.pointer (some ⟨gp, 0, none⟩)].toArray #[]), none, none, none, some (.int .i64 y), none, none, none, none, none, none, none, none, none, none, none, none, none, none, none, none, none, none, none, none, none, none, none, none, none, none, none, none, none, none, none, none, none, none, none, none, none, none, none, none, none, none, none, none, none, none, none, none, none, none, none, none, none, none, none, none, none, none, none, none, none, none, none, none, none, none, none, none, none, none, none, none, none] l ∧ y = q ∧ q ≤ x.length ∧ POk 65536 g cap sp (wl thwait x q st) ∧ Hp w0 w (bl (pw gp g0 cap0 sp0 st)) (pw gp g cap sp (wl thwait x q st))) (x.length) ?_ ?_
      · exact ⟨0, _, g, cap, sp, rfl, (fs (fs (fs (fn (fn (fn (fs (fn (fn (fn (fn (fn (fn (fn (fn (fn (fn (fn (fn (fn (fn (fn (fn (fn (fn (fn (fn (fn (fn (fn (fn (fn (fn (fn (fn (fn (fn (fn (fn (fn (fn (fn (fn (fn (fn (fn (fn (fn (fn (fn (fn (fn (fn (fn (fn (fn (fn (fn (fn (fn (fn (fn (fn (fn (fn (fn (fn (fn (fn (fn (fn (fn (fn (fn (fn (fn (fn (fn (fn (fn f0)))))))))))))))))))))))))))))))))))))))))))))))))))))))))))))))))))))))))))))))), rfl, Nat.zero_le _, by rw [hzero]; exact hP2, by rw [hzero]; exact H3⟩
      · rintro n l w4 ⟨q, y, g, cap, sp, rfl, hfit, rfl, hq, hP, H4⟩
        obtain ⟨j, rfl⟩ := hfit.open
        refine nR80 ?_
        clear hfit
        refine run_seq ?_
        refine run_seq ?_
        refine run_region ?_
        refine ops_val (ex_move rfl) ?_
        refine ops_val (ex_move rfl) ?_
        refine ops_val (ex_nilCheck rfl) ?_
        refine ops_val (ex_load ty24 rfl (cell_to hcq H4 hbq)) ?_
        refine nO80 ?_
        refine ops_val (ex_len_slice Tryz.underlying24 rfl) ?_
        refine ops_test (ex_lss rfl rfl) (fun hp38 => ?_) (fun hp38 => ?_)
        · have hql : q < x.length := by omega
          obtain ⟨⟨so, sl⟩, hst⟩ : ∃ s, wl thwait x q st = s := ⟨_, rfl⟩
          rw [hst] at hP H4
          refine ops_val (ex_move rfl) ?_
          refine nO80 ?_
          refine ops_yes rfl ?_
          refine ops_val (ex_move rfl) ?_
          refine ops_yes rfl ?_
          refine ops_val (ex_nilCheck rfl) ?_
          refine nO80 ?_
          refine ops_yes rfl ?_
          refine ops_val (ex_fieldAddr fl80_2 rfl) ?_
          refine ops_yes rfl ?_
          refine ops_val (ex_load ty4 rfl (H4.cell (i := 0) rfl rfl)) ?_
          refine nO80 ?_
          refine ops_yes rfl ?_
          refine ops_val (ex_not rfl) ?_
          refine ops_val (ex_pick_t rfl rfl) ?_
          refine ops_nil ?_
          refine nR80 ?_
          refine run_cond rfl (fun hb45 => ?_) (fun hb45 => ?_)
          · have hsl : sl = false := by simpa using hb45
            subst hsl
            refine run_skip ?_
            refine run_seq ?_
            refine run_block ?_
            refine run_region ?_
            refine ops_val (ex_move rfl) ?_
            refine ops_val (ex_move rfl) ?_
            refine ops_val (ex_nilCheck rfl) ?_
            refine ops_val (ex_load ty24 rfl (cell_to hcq H4 hbq)) ?_
            refine nO80 ?_
            refine ops_val (ex_move rfl) ?_
            obtain ⟨pa, hpa⟩ := hrd.some_ (by omega)
            subst hpa
            refine ops_val (ex_idx Tryz.underlying24 ty71 rfl rfl rfl hql rfl) ?_
            have hpb := hap (by omega) pa rfl
            have hMq := thwait.to (hel q hql) H4 (fun _ h => h)
            refine ops_call (ex_call_bound gf37 rfl rfl) (pwait_W gp g cap sp _ (pa.add (q * 11)) x[q] _ _ H4.here hP (thwait.mono hMq fun _ h => h.2) ((elem_cl hrd hql hpb).to H4) (fun h => by cases h)) ?_
            rintro _ w5 ⟨g, cap, sp, hP2, Hd⟩
            have H5 := H4.all Hd
            refine ops_nil ?_
            refine nR80 ?_
            refine run_nil (blk_normal ?_)
            refine run_region ?_
            refine ops_val (ex_move rfl) ?_
            refine ops_val (ex_add rfl rfl (IntWalk.i64_in _ (by omega))) ?_
            refine ops_val (ex_assign rfl) ?_
            refine ops_nil ?_
            refine nR80 ?_
            refine run_nil (rnd_normal ?_)
            exact ⟨x.length - (q + 1), by omega, q + 1, _, g, cap, sp, rfl, (fs (fs (fs (fn (fn (fn (fs (fn (fn (fn (fn (fn (fn (fn (fn (fn (fn (fn (fn (fn (fn (fn (fn (fn (fn (fn (fn (fn (fn (fn (fn (fn (fn (fn (fn (fn (fn (fn (fn (fn (fn (fn (fn (fn (fn (fn (fn (fn (fn (fn (fn (fn (fn (fn (fn (fn (fn (fn (fn (fn (fn (fn (fn (fn (fn (fn (fn (fn (fn (fn (fn (fn (fn (fn (fn (fn (fn (fn (fn (fn f0)))))))))))))))))))))))))))))))))))))))))))))))))))))))))))))))))))))))))))))))), rfl, by omega, by rw [wl_succ hql, hst]; exact hP2, by rw [wl_succ hql, hst]; exact H5⟩
          · have hsl : sl = true := by simpa using hb45
            subst hsl
            refine run_exit ?_
            refine rnd_exit ?_
            refine blk_exit ?_
            refine run_ret ?_
            refine fin_ret0 rfl ?_
            have e := wl_stop (A := thwait) false (x := x) (q := q) (st := st) (by rw [hst])
            rw [e, hst]
            exact ⟨g, cap, sp, hP, H4⟩
        · have hqm : q = x.length := by omega
          subst hqm
          refine ops_val (ex_move rfl) ?_
          refine nO80 ?_
          refine ops_no rfl ?_
          refine ops_no rfl ?_
          refine nO80 ?_
          refine ops_no rfl ?_
          refine ops_no rfl ?_
          refine nO80 ?_
          refine ops_no rfl ?_
          refine ops_val (ex_pick_f rfl rfl) ?_
          refine ops_nil ?_
          refine nR80 ?_
          refine run_cond_false rfl ?_
          refine run_exit ?_
          refine rnd_exit ?_
          refine blk_exit ?_
          refine run_ret ?_
          refine fin_ret0 rfl ?_
          rw [wl_all thwait false] at hP H4
          exact ⟨g, cap, sp, hP, H4⟩
theorem plwait_W : PenWL Tryz.prog 36 37 (Th.many thwait false) := plwait_w
set_option maxRecDepth 100000 in
set_option maxHeartbeats 4000000 in
theorem plwait_r (gp gr : Nat) (gb : Option Nat) (cb : Nat) (sb : List Value) (b : List UInt8) (hcb : b.length ≤ cb) (hbl : b.length ≤ 65536) (go o i e : Nat) (U : TypeId) (cs : List Value) (w0 : World) (H0 : Hp w0 w0 (bl (pr gp gr gb cb sb b i e ++ [(some go, U, cs)])) (pr gp gr gb cb sb b i e ++ [(some go, U, cs)])) (hi : i ≤ b.length) (hat : At cs o (Th.many thwait false).zs) (hfit : o + (Th.many thwait false).sz ≤ cs.length) :
    Does Tryz.prog 36 #[.pointer (some ⟨gp, 0, none⟩), .pointer (some ⟨go, o, none⟩), .func (.func 37) [.pointer (some ⟨gp, 0, none⟩)].toArray #[]] w0 (fun _ w' => RdOut (pr gp gr gb cb sb b) (Th.many thwait false) go o U cs b i e w0.heap.size w0 (bl (pr gp gr gb cb sb b i e ++ [(some go, U, cs)])) w') := by
  refine does_of Tryz.func36 Tryz.ntmps36 rfl ?_
  refine nR80 ?_
  have H := H0
  change o + 1 ≤ cs.length at hfit
  have hcq : cs[o]? = some (Value.slice none 0 0) := by have := hat 0 _ rfl; rwa [Nat.add_zero] at this
  have hrow : putAt cs o [Value.slice none 0 0] = cs := putAt_same hat (by simpa using hfit)
  refine run_seq ?_
  refine run_seq ?_
  refine run_region ?_
  refine ops_val (ex_move rfl) ?_
  have hk := pstop_r gp gr gb cb sb b i e _ (Hp.less (es := pr gp gr gb cb sb b i e) (R := [(some go, U, cs)]) H).here hcb hbl hi
  refine ops_call_val (ex_call gf63 rfl) hk ?_
  intro w1 Hd
  have H1 := Hp.front (R := [(some go, U, cs)]) H Hd
  refine ops_nil ?_
  refine nR80 ?_
  refine run_cond rfl (fun hb11 => ?_) (fun hb11 => ?_)
  · have hbe : e ≠ 0 := by simpa using hb11
    refine run_ret ?_
    refine fin_ret0 rfl ?_
    have hbd := (Th.many thwait false).bad (b := b) (i := i) hbe
    unfold RdOut
    rw [hbd]
    refine ⟨[Value.slice none 0 0], rfl, rfl, by rw [hrow]; exact H1, fun h => absurd h hbe⟩
  · have hbe : e = 0 := by simpa using hb11
    refine run_skip ?_
    refine run_seq ?_
    refine run_seq ?_
    refine run_region ?_
    refine ops_val (ex_move rfl) ?_
    refine ops_val (ex_nilCheck rfl) ?_
    refine ops_val (ex_fieldAddr fl80_0 rfl) ?_
    refine ops_val (ex_load ty78 rfl (H1.cell (i := 0) rfl rfl)) ?_
    refine nO80 ?_
    refine ops_false (ex_eql_nil_ptr Tryz.underlying78 rfl) (by simp) ?_
    refine ops_nil ?_
    refine nR80 ?_
    refine run_cond_false rfl ?_
    refine run_skip ?_
    refine run_seq ?_
    refine run_region ?_
    refine ops_val (ex_move rfl) ?_
    refine ops_val (ex_nilCheck rfl) ?_
    refine ops_val (ex_fieldAddr fl80_0 rfl) ?_
    refine ops_val (ex_load ty78 rfl (H1.cell (i := 0) rfl rfl)) ?_
    refine nO80 ?_
    obtain ⟨⟨nn, ic, ec⟩, hcn⟩ : ∃ s, countStep b 1024 i e = s := ⟨_, rfl⟩
    have hcb2 := countStep_le (b := b) (most := 1024) (i := i) (e := e) hi
    have hic := hcb2.1
    have hn3 := hcb2.2.2.1
    rw [hcn] at hic hn3
    simp only at hic hn3
    have hnn : nn ≤ 1024 := by have : ((nn : Nat) : Int) ≤ max 1024 0 := hn3; omega
    have hmr : (Th.many thwait false).rd b i e = rdN thwait b nn ic ec := by
      show rdN thwait b (countStep b 1024 i e).1 (countStep b 1024 i e).2.1 (countStep b 1024 i e).2.2 = _
      rw [hcn]
    have hk := count_rd gr (hd gb) cb b i e _ (rdr_of H1 (j := 1) (k := 2) rfl rfl (by decide) hcb (by omega) hi) 1024 (by decide) (by decide)
    rw [hcn] at hk
    refine ops_call_val (ex_call gf69 rfl) hk ?_
    intro w2 Hd
    have HN0 := (H1.call1 (i := 1) rfl Hd).pick [0, 4, 2, 3] (by decide)
    have H2 : Hp w0 w2 (bl (pr gp gr gb cb sb b i e ++ [(some go, U, cs)])) (pr gp gr gb cb sb b ic ec ++ [(some go, U, putAt cs o [Value.slice none 0 0])]) := by rw [hrow]; exact HN0
    refine ops_val (ex_assign rfl) ?_
    refine ops_nil ?_
    refine nR80 ?_
    refine run_seq ?_
    refine run_region ?_
    refine ops_val (ex_assign rfl) ?_
    refine ops_nil ?_
    refine nR80 ?_
    refine run_block ?_
    refine run_loop (fun n l w => ∃ (q : Nat) (y : Int) (i1 e1 : Nat) (xs : List thwait.X) (uc spl : List Value) (gl : Option Nat) (capl : Nat), nn - q = n ∧ Fits [some (.pointer (some ⟨gp, 0, none⟩)), some (.pointer (some ⟨go, o, none⟩)), some (.func (.func 37) [.pointer (some ⟨gp, 0, none⟩)].toArray #[]), none, none, none, none, some (.int .i64 (nn : Int)), some (.int .i64 y), none, none, none, none, none, none, none, none, none, none, none, none, none, none, none, none, none, none, none, none, none, none, none, none, none, none, none, none, none, none, none, none, none, none, none, none, none, none, none, none, none, none, none, none, none, none, none, none, none, none, none, none, none, none, none, none, none, none, none, none, none, none, none, none, none, none, none, none, none, none, none] l ∧ y = q ∧ q ≤ nn ∧ xs.length = q ∧ rdN thwait b nn ic ec = (xs ++ (rdN thwait b (nn - q) i1 e1).1, (rdN thwait b (nn - q) i1 e1).2) ∧ i1 ≤ b.length ∧ uc.length = q * 11 ∧ uc.all (·.oneCell') = true ∧ q ≤ capl ∧ capl * 11 ≤ (uc ++ spl).length ∧ (gl = none → capl = 0) ∧ Hp w0 w (bl (pr gp gr gb cb sb b i e ++ [(some go, U, cs)])) ((pr gp gr gb cb sb b i1 e1 ++ [(some go, U, putAt cs o [Value.slice (hd gl) q capl])]) ++ [(gl, 71, uc ++ spl)]) ∧ (e1 = 0 → ∀ j (hj : j < xs.length), thwait.M w (Fr w w0.heap.size ((pr gp gr gb cb sb b i1 e1 ++ [(some go, U, putAt cs o [Value.slice (hd gl) q capl])]) ++ [(gl, 71, uc ++ spl)])) xs[j] ((uc.drop (j * 11)).take 11))) (nn) ?_ ?_
    · exact ⟨0, _, ic, ec, [], [], [], none, 0, rfl, (fs (fs (fs (fn (fn (fn (fn (fs (fs (fn (fn (fn (fn (fn (fn (fn (fn (fn (fn (fn (fn (fn (fn (fn (fn (fn (fn (fn (fn (fn (fn (fn (fn (fn (fn (fn (fn (fn (fn (fn (fn (fn (fn (fn (fn (fn (fn (fn (fn (fn (fn (fn (fn (fn (fn (fn (fn (fn (fn (fn (fn (fn (fn (fn (fn (fn (fn (fn (fn (fn (fn (fn (fn (fn (fn (fn (fn (fn (fn (fn f0)))))))))))))))))))))))))))))))))))))))))))))))))))))))))))))))))))))))))))))))), rfl, Nat.zero_le _, rfl, rfl, hic, rfl, rfl, Nat.le_refl _, Nat.zero_le _, fun _ => rfl, (H2.nil 71), fun _ j hj => by cases hj⟩
    · rintro n l w3 ⟨q, y, i1, e1, xs, uc, spl, gl, capl, rfl, hfit, rfl, hq, hxs, hrd, hi1, hul, huo, hqc, hcl, hgl, H3, hel⟩
      obtain ⟨j, rfl⟩ := hfit.open
      refine nR80 ?_
      clear hfit
      refine run_seq ?_
      refine run_seq ?_
      refine run_region ?_
      refine ops_val (ex_move rfl) ?_
      refine ops_val (ex_move rfl) ?_
      refine ops_test (ex_lss rfl rfl) (fun hp62 => ?_) (fun hp62 => ?_)
      · have hql : q < nn := by omega
        refine ops_val (ex_move rfl) ?_
        refine nO80 ?_
        refine ops_yes rfl ?_
        refine ops_val (ex_move rfl) ?_
        refine ops_yes rfl ?_
        have HZ : Hp w0 w3 (bl (pr gp gr gb cb sb b i e ++ [(some go, U, cs)])) (pr gp gr gb cb sb b i1 e1 ++ [(some go, U, putAt cs o [Value.slice (hd gl) q capl]), (gl, 71, uc ++ spl)]) := H3
        have hk := pstop_r gp gr gb cb sb b i1 e1 _ (Hp.less (es := pr gp gr gb cb sb b i1 e1) HZ).here hcb hbl hi1
        refine ops_call_val (ex_call gf63 rfl) hk ?_
        intro w4 Hd
        replace hel := fun h0 j hj => Fr.to (hel h0 j hj) (Hp.front (R := [(some go, U, putAt cs o [Value.slice (hd gl) q capl]), (gl, 71, uc ++ spl)]) HZ.here Hd)
        have H4 := Hp.front HZ Hd
        refine nO80 ?_
        refine ops_yes rfl ?_
        refine ops_val (ex_not rfl) ?_
        refine ops_val (ex_pick_t rfl rfl) ?_
        refine ops_nil ?_
        refine nR80 ?_
        refine run_cond rfl (fun hb67 => ?_) (fun hb67 => ?_)
        · have he1 : e1 = 0 := by simpa using hb67
          refine run_skip ?_
          refine run_seq ?_
          refine run_block ?_
          refine run_seq ?_
          refine run_region ?_
          have HB := H4
          replace H4 := HB.here
          refine ops_alloc ty71 H4 ?_
          intro w5 gx H5 hgx
          refine ops_nil ?_
          refine nR80 ?_
          refine run_seq ?_
          refine run_region ?_
          refine ops_val (ex_move rfl) ?_
          have HX : Hp _ w5 _ ((pr gp gr gb cb sb b i1 e1 ++ [(some gx, 71, [.int .i64 0, .int .i64 0, .int .i64 0, .int .i64 0, .int .i64 0, .int .i64 0, .string .empty, .string .empty, .int .i64 0, .int .i64 0, .int .i64 0])]) ++ [(some go, U, putAt cs o [Value.slice (hd gl) q capl]), (gl, 71, uc ++ spl)]) := H5.pick [0, 1, 2, 5, 3, 4] (by decide)
          obtain ⟨⟨xv, i2, e2⟩, hx⟩ : ∃ s, thwait.rd b i1 e1 = s := ⟨_, rfl⟩
          have hi2 : i2 ≤ b.length := by have := thwait.le (b := b) (e := e1) hi1; rw [hx] at this; exact this
          refine ops_call (ex_call_bound gf37 rfl rfl) (pwait_R gp gr gb cb sb b hcb hbl gx 0 i1 e1 71 _ _ HX.less.here hi1 (At.self _) (Nat.le_refl _)) ?_
          rintro _ w6 ⟨us, hus, huno, Hd, hMx⟩
          rw [hx] at Hd hMx
          simp only at Hd hMx
          have hpu : putAt [.int .i64 0, .int .i64 0, .int .i64 0, .int .i64 0, .int .i64 0, .int .i64 0, .string .empty, .string .empty, .int .i64 0, .int .i64 0, .int .i64 0] 0 us = us := putAt_all hus
          rw [hpu] at Hd hMx
          have hnsz := Nat.le_trans HB.size HX.size
          have HC := HX.front Hd
          replace hMx := fun h0 => thwait.mono (ok' := Fr w6 w0.heap.size ((pr gp gr gb cb sb b i2 e2 ++ [(some gx, 71, us)]) ++ [(some go, U, putAt cs o [Value.slice (hd gl) q capl]), (gl, 71, uc ++ spl)])) (hMx h0) (fun p hp => ⟨by have := hp.1; omega, fun hq => by
            rw [bl_append] at hq
            rcases List.mem_append.1 hq with hq | hq
            · exact hp.2.1 hq
            · have h1 := bl_lt HX (b := p) (by rw [bl_append]; exact List.mem_append_right _ hq)
              have := hp.1
              omega, hp.2.2⟩)
          replace hel := fun h0 j hj => Fr.to (hel h0 j hj) HC
          have H6 := HC.here
          refine ops_nil ?_
          refine nR80 ?_
          refine run_mixZ 8 [(true, 0), (true, 1), (true, 2), (true, 3), (true, 4), (false, 5), (false, 6), (true, 7), (false, 8)] H6 [0, 1, 2, 3, 4] mixed (by decide) (by kernel_rfl) ?_
          rintro w7 hw7
          have H7 := Hp.drew H6; rw [← hw7] at H7
          refine mixz_p rfl ?_
          refine mix1_val (fun wz hz => ex_move rfl) ?_
          refine mixz_p rfl ?_
          refine mix1_val (fun wz hz => ex_move rfl) ?_
          refine mixz_p rfl ?_
          refine mix1_val (fun wz hz => ex_nilCheck rfl) ?_
          refine mixz_p rfl ?_
          refine mix1_val (fun wz hz => ex_load ty24 rfl (hz.cell (i := 4) rfl (show (putAt cs o [Value.slice (hd gl) q capl])[o]? = some (Value.slice (hd gl) q capl) from by rw [putAt_get (by simpa using hfit), if_neg (by omega), if_pos (by simp)]; simp))) ?_
          refine nZ80 ?_
          refine mixz_p rfl ?_
          refine mix1_val (fun wz hz => ex_loadN ty71 rfl (vs := us) hus (hz.cells (i := 3) rfl)) ?_
          refine mixz_o rfl ?_
          refine ops_build1 Tryz.underlying24 ty71 H7 rfl rfl hus (by decide) ?_
          intro w8 gn H8 hgn
          refine ops_nil ?_
          refine ⟨fun hne => H8.pick [0, 1, 2, 3, 4] (by decide), ?_⟩
          refine nZ80 ?_
          refine mixz_o rfl ?_
          refine ops_append Tryz.underlying24 ty71 (by decide) H8 5 (g := gl) (xs := uc) (sp := spl) rfl rfl hul hcl hqc hgl rfl (H8.rd (i := 6) (o := some gn) (xs := us) (sp := []) (by rw [List.append_nil]; rfl) (by rw [hus, Nat.one_mul]; rfl) (by decide)) huno (by omega) (by omega) (by decide) ?_
          intro w9 gl2 capl2 spl2 H9 hcl2 hqc2 hgl2
          refine ops_nil ?_
          refine ⟨fun hne => H9.pick [0, 1, 2, 3, 4] (by decide), ?_⟩
          refine nZ80 ?_
          refine mixz_p rfl ?_
          refine mix1_val (fun wz hz => ex_nilCheck rfl) ?_
          refine mixz_o rfl ?_
          refine ops_store1 ty24 H9 4 rfl rfl rfl rfl (by rw [putAt_len (by simpa using hfit)]; omega) rfl ?_
          intro w10 HS0
          have hset2 : (putAt cs o [Value.slice (hd gl) q capl]).set o (Value.slice (hd gl2) (q + 1) capl2) = putAt cs o [Value.slice (hd gl2) (q + 1) capl2] := by
            apply List.ext_getElem?
            intro j
            rw [List.getElem?_set, putAt_len (by simpa using hfit), putAt_get (by simpa using hfit), putAt_get (by simpa using hfit)]
            by_cases hj : o = j
            · subst hj; rw [if_pos rfl, if_pos (by omega), if_neg (by omega), if_pos (by simp)]; simp
            · rw [if_neg hj]
              split
              · rfl
              · rw [if_neg (by simp; omega), if_neg (by simp; omega)]
          have H10 := HS0
          refine ops_nil ?_
          refine ⟨fun hne => absurd rfl hne, ?_⟩
          refine nZ80 ?_
          refine mixz_nil ?_
          refine nR80 ?_
          refine run_nil (blk_normal ?_)
          refine run_region ?_
          refine ops_val (ex_move rfl) ?_
          refine ops_val (ex_add rfl rfl (IntWalk.i64_in _ (by omega))) ?_
          refine ops_val (ex_assign rfl) ?_
          refine ops_nil ?_
          refine nR80 ?_
          refine run_nil (rnd_normal ?_)
          have h1 := H10.pick [0, 1, 2, 4, 5] (by decide)
          rw [hset2] at h1
          have HR := (show ∀ (wa wb : World) (SS : List Nat), Hp wa wb SS ((pr gp gr gb cb sb b i2 e2 ++ [(some go, U, putAt cs o [Value.slice (hd gl2) (q + 1) capl2])]) ++ [(gl2, 71, (uc ++ us) ++ spl2)]) → Hp wa wb SS ((pr gp gr gb cb sb b i2 e2 ++ [(some go, U, putAt cs o [Value.slice (hd gl2) (q + 1) capl2])]) ++ [(gl2, 71, (uc ++ us) ++ spl2)]) from fun _ _ _ h => h) _ _ _ h1
          refine ⟨nn - (q + 1), by omega, q + 1, _, i2, e2, xs ++ [xv], uc ++ us, spl2, gl2, capl2, rfl, (fs (fs (fs (fn (fn (fn (fn (fs (fs (fn (fn (fn (fn (fn (fn (fn (fn (fn (fn (fn (fn (fn (fn (fn (fn (fn (fn (fn (fn (fn (fn (fn (fn (fn (fn (fn (fn (fn (fn (fn (fn (fn (fn (fn (fn (fn (fn (fn (fn (fn (fn (fn (fn (fn (fn (fn (fn (fn (fn (fn (fn (fn (fn (fn (fn (fn (fn (fn (fn (fn (fn (fn (fn (fn (fn (fn (fn (fn (fn (fn f0)))))))))))))))))))))))))))))))))))))))))))))))))))))))))))))))))))))))))))))))), rfl, by omega, by simp [hxs], ?_, hi2, by rw [List.length_append, hul, hus]; show q * 11 + 11 = (q + 1) * 11; omega, by rw [List.all_append, huo, huno]; rfl, hqc2, hcl2, hgl2, (HB.all HC).all HR, ?_⟩
          · rw [hrd, rdN_step hql he1 hx, List.append_assoc]; rfl
          · intro h0 j hj
            simp only [List.length_append, List.length_cons, List.length_nil] at hj
            by_cases hjq : j < xs.length
            · rw [List.getElem_append_left hjq]
              have hd1 : ((uc ++ us).drop (j * 11)).take 11 = (uc.drop (j * 11)).take 11 := by
                have h1 : (j + 1) * 11 ≤ q * 11 := Nat.mul_le_mul_right _ (by omega)
                rw [List.drop_append_of_le_length (by omega), List.take_append_of_le_length (by rw [List.length_drop]; omega)]
              rw [hd1]
              exact Fr.to (hel he1 j hjq) HR
            · have hjj : j = xs.length := by omega
              subst hjj
              rw [List.getElem_append_right (Nat.le_refl _)]
              have hd2 : ((uc ++ us).drop (xs.length * 11)).take 11 = us := by
                rw [hxs, ← hul, List.drop_left]
                exact List.take_of_length_le (Nat.le_of_eq hus)
              simp only [Nat.sub_self, List.getElem_cons_zero]
              rw [hd2]
              exact Fr.to (hMx h0) HR
        · have he1 : e1 ≠ 0 := by simpa using hb67
          refine run_exit ?_
          refine rnd_exit ?_
          refine blk_exit ?_
          refine run_nil ?_
          refine fin_end0 rfl ?_
          have hrw : (Th.many thwait false).rd b i e = (xs, i1, e1) := by rw [hmr, hrd]; first | (rw [rdN_bad _ _ _ he1]; simp) | (simp [rdN])
          unfold RdOut
          rw [hrw]
          have HF : Hp w0 w4 _ ((pr gp gr gb cb sb b i1 e1 ++ [(some go, U, putAt cs o [Value.slice (hd gl) q capl])]) ++ [(gl, 71, uc ++ spl)]) := H4
          refine ⟨[Value.slice (hd gl) q capl], rfl, rfl, HF.less, fun h0 => ⟨hd gl, capl, uc, by rw [hxs], ⟨by rw [hxs]; omega, fun _ => by decide⟩, by rw [hxs]; exact HF.rd (i := 4) (o := gl) (xs := uc) (sp := spl) rfl hul (by decide), fun _ p hp => ⟨place_new HF rfl (i := 0) rfl p hp, row_apart HF (i := 0) rfl p hp, HF.tw (i := 4) rfl p hp⟩, fun _ _ p hp => HF.tw (i := 4) rfl p hp, fun j hj => thwait.mono (hel h0 j hj) (fun p hp => ⟨hp.1, fun hq => hp.2.1 (show p ∈ bl ((pr gp gr gb cb sb b i1 e1 ++ [(some go, U, putAt cs o [Value.slice (hd gl) q capl])]) ++ [(gl, 71, uc ++ spl)]) from bl_left hq), hp.2.2⟩)⟩⟩
      · have hqm : q = nn := by omega
        subst hqm
        refine ops_val (ex_move rfl) ?_
        refine nO80 ?_
        refine ops_no rfl ?_
        refine ops_no rfl ?_
        refine nO80 ?_
        refine ops_no rfl ?_
        refine ops_val (ex_pick_f rfl rfl) ?_
        refine ops_nil ?_
        refine nR80 ?_
        refine run_cond_false rfl ?_
        refine run_exit ?_
        refine rnd_exit ?_
        refine blk_exit ?_
        refine run_nil ?_
        refine fin_end0 rfl ?_
        have hrw : (Th.many thwait false).rd b i e = (xs, i1, e1) := by rw [hmr, hrd]; first | (rw [rdN_bad _ _ _ he1]; simp) | (simp [rdN])
        unfold RdOut
        rw [hrw]
        have HF : Hp w0 w3 _ ((pr gp gr gb cb sb b i1 e1 ++ [(some go, U, putAt cs o [Value.slice (hd gl) q capl])]) ++ [(gl, 71, uc ++ spl)]) := H3
        refine ⟨[Value.slice (hd gl) q capl], rfl, rfl, HF.less, fun h0 => ⟨hd gl, capl, uc, by rw [hxs], ⟨by rw [hxs]; omega, fun _ => by decide⟩, by rw [hxs]; exact HF.rd (i := 4) (o := gl) (xs := uc) (sp := spl) rfl hul (by decide), fun _ p hp => ⟨place_new HF rfl (i := 0) rfl p hp, row_apart HF (i := 0) rfl p hp, HF.tw (i := 4) rfl p hp⟩, fun _ _ p hp => HF.tw (i := 4) rfl p hp, fun j hj => thwait.mono (hel h0 j hj) (fun p hp => ⟨hp.1, fun hq => hp.2.1 (show p ∈ bl ((pr gp gr gb cb sb b i1 e1 ++ [(some go, U, putAt cs o [Value.slice (hd gl) q capl])]) ++ [(gl, 71, uc ++ spl)]) from bl_left hq), hp.2.2⟩)⟩⟩
theorem plwait_R : PenRL Tryz.prog 36 37 (Th.many thwait false) := plwait_r
set_option maxRecDepth 100000 in
set_option maxHeartbeats 4000000 in
theorem pldeal_w (gp : Nat) (g0 : Option Nat) (cap0 : Nat) (sp0 : List Value) (st : WS) (a : Addr) (x : List thdeal.X) (vs : List Value) (w0 : World) (H0 : Hp w0 w0 (bl (pw gp g0 cap0 sp0 st)) (pw gp g0 cap0 sp0 st)) (hP : POk 65536 g0 cap0 sp0 st) (hM : (Th.many thdeal false).M w0 (fun b => b ∉ bl (pw gp g0 cap0 sp0 st)) x vs) (hC : Cl w0 (bl (pw gp g0 cap0 sp0 st)) a vs) :
    Does Tryz.prog 38 #[.pointer (some ⟨gp, 0, none⟩), .pointer (some a), .func (.func 39) [.pointer (some ⟨gp, 0, none⟩)].toArray #[]] w0 (fun _ w' => PwOut gp (wAll ((Th.many thdeal false).fl x) st) w0 (bl (pw gp g0 cap0 sp0 st)) w') := by
  refine does_of Tryz.func38 Tryz.ntmps38 rfl ?_
  refine nR80 ?_
  have H := H0
  obtain ⟨B, c, cells, rfl, hz, hrd, hap, ht, hel⟩ := hM
  have hcq : w0.cell? a = some (.slice B x.length c) := by have := hC.cell 0 _ rfl; rwa [Addr.add_zero'] at this
  have hbq := hC.apart (by simp)
  refine run_seq ?_
  refine run_seq ?_
  refine run_region ?_
  refine ops_val (ex_move rfl) ?_
  have hk := pstop_w gp g0 cap0 sp0 st _ H.here
  refine ops_call_val (ex_call gf63 rfl) hk ?_
  intro w1 Hd
  have H1 := H.all Hd
  refine ops_nil ?_
  refine nR80 ?_
  refine run_cond rfl (fun hb11 => ?_) (fun hb11 => ?_)
  · skip
    refine run_ret ?_
    refine fin_ret0 rfl ?_
    have e : wAll ((Th.many thdeal false).fl x) st = st := wAll_long hb11
    rw [e]
    exact ⟨g0, cap0, sp0, hP, H1⟩
  · skip
    refine run_skip ?_
    refine run_seq ?_
    refine run_seq ?_
    refine run_region ?_
    refine ops_val (ex_move rfl) ?_
    refine ops_val (ex_nilCheck rfl) ?_
    refine ops_val (ex_fieldAddr fl80_0 rfl) ?_
    refine ops_val (ex_load ty78 rfl (H1.cell (i := 0) rfl rfl)) ?_
    refine nO80 ?_
    refine ops_true (ex_eql_nil_ptr Tryz.underlying78 rfl) (rfl) ?_
    refine ops_nil ?_
    refine nR80 ?_
    refine run_cond_true rfl ?_
    refine run_seq ?_
    refine run_seq ?_
    refine run_region ?_
    refine ops_val (ex_move rfl) ?_
    refine ops_val (ex_nilCheck rfl) ?_
    refine ops_val (ex_load ty25 rfl (cell_to hcq H1 hbq)) ?_
    refine ops_val (ex_len_slice Tryz.underlying25 rfl) ?_
    refine nO80 ?_
    refine ops_test (ex_gtr rfl rfl) (fun hp21 => ?_) (fun hp21 => ?_)
    · skip
      refine ops_nil ?_
      refine nR80 ?_
      refine run_cond_true rfl ?_
      refine run_seq ?_
      refine run_region ?_
      refine ops_val (ex_move rfl) ?_
      refine ops_val (ex_nilCheck rfl) ?_
      refine ops_val (ex_fieldAddr fl80_2 rfl) ?_
      refine ops_store1 ty4 H1 0 rfl rfl rfl rfl (by first | decide | simp) rfl ?_
      intro w2 H2
      refine ops_nil ?_
      refine nR80 ?_
      refine run_ret ?_
      refine fin_ret0 rfl ?_
      have e := wl_too (A := thdeal) false hb11 (x := x) (by omega)
      rw [e]
      exact ⟨g0, cap0, sp0, ⟨hP.1, hP.2, hP.3, hP.4⟩, H2⟩
    · have hzero : wl thdeal x 0 st = wPut (enc x.length) st := by rw [wl_zero]; exact wFld_put hb11 (by simp [tooLong]; omega)
      refine ops_nil ?_
      refine nR80 ?_
      refine run_cond_false rfl ?_
      refine run_skip ?_
      refine run_seq ?_
      refine run_region ?_
      refine ops_val (ex_move rfl) ?_
      refine ops_val (ex_move rfl) ?_
      refine ops_val (ex_nilCheck rfl) ?_
      refine ops_val (ex_load ty25 rfl (cell_to hcq H1 hbq)) ?_
      refine nO80 ?_
      refine ops_val (ex_len_slice Tryz.underlying25 rfl) ?_
      refine ops_val (ex_conv Tryz.underlying136 Tryz.underlying3 rfl (IntWalk.u64_in _ (by omega))) ?_
      have hxl : (enc x.length).length ≤ 1000000000 := by have := enc_len64 (v := x.length) (by omega); omega
      refine ops_call_own (ex_call gf68 rfl) (num_any x.length _ (by omega)) ?_
      intro w2 g1 c1 sp1 hm1 hc1 hg1 Hd
      have H2 := H1.call0 Hd
      have HQ : Hp w0 w2 _ (pw gp g0 cap0 sp0 st ++ [(g1, 5, u8s (enc x.length) ++ sp1)]) := H2
      have hk := pput_w gp g0 cap0 sp0 st _ (HQ.less (es := pw gp g0 cap0 sp0 st) (R := [(g1, 5, u8s (enc x.length) ++ sp1)])).here hP (hd g1) (enc x.length) c1 (HQ.rd (i := 2) (o := g1) (xs := u8s (enc x.length)) (sp := sp1) rfl (u8s_length1 _) (by decide)) (row_apart HQ (i := 0) rfl) hxl
      refine ops_call (ex_call gf64 rfl) hk ?_
      rintro _ w3 ⟨g, cap, sp, hP2, Hd⟩
      have H3 := Hp.less (es := pw gp g cap sp _) (R := [(g1, 5, u8s (enc x.length) ++ sp1)]) (HQ.front Hd)
      refine ops_nil ?_
      refine nR80 ?_
      refine run_seq ?_
      refine run_seq ?_
      refine run_region ?_
      refine ops_val (ex_assign rfl) ?_
      refine ops_nil ?_
      refine nR80 ?_
      refine run_block ?_
      refine run_loop (fun n l w => ∃ (q : Nat) (y : Int) (g : Option Nat) (cap : Nat) (sp : List Value), x.length - q = n ∧ Fits [some (.pointer (some ⟨gp, 0, none⟩)), some (.pointer (some a)), some (.func (.func 39) [.pointer (some ⟨gp, 0, none⟩)].toArray #[]), none, none, none, some (.int .i64 y), none, none, none, none, none, none, none, none, none, none, none, none, none, none, none, none, none, none, none, none, none, none, none, none, none, none, none, none, none, none, none, none, none, none, none, none, none, none, none, none, none, none, none, none, none, none, none, none, none, none, none, none, none, none, none, none, none, none, none, none, none, none, none, none, none, none, none, none, none, none, none, none, none] l ∧ y = q ∧ q ≤ x.length ∧ POk 65536 g cap sp (wl thdeal x q st) ∧ Hp w0 w (bl (pw gp g0 cap0 sp0 st)) (pw gp g cap sp (wl thdeal x q st))) (x.length) ?_ ?_
      · exact ⟨0, _, g, cap, sp, rfl, (fs (fs (fs (fn (fn (fn (fs (fn (fn (fn (fn (fn (fn (fn (fn (fn (fn (fn (fn (fn (fn (fn (fn (fn (fn (fn (fn (fn (fn (fn (fn (fn (fn (fn (fn (fn (fn (fn (fn (fn (fn (fn (fn (fn (fn (fn (fn (fn (fn (fn (fn (fn (fn (fn (fn (fn (fn (fn (fn (fn (fn (fn (fn (fn (fn (fn (fn (fn (fn (fn (fn (fn (fn (fn (fn (fn (fn (fn (fn (fn f0)))))))))))))))))))))))))))))))))))))))))))))))))))))))))))))))))))))))))))))))), rfl, Nat.zero_le _, by rw [hzero]; exact hP2, by rw [hzero]; exact H3⟩
      · rintro n l w4 ⟨q, y, g, cap, sp, rfl, hfit, rfl, hq, hP, H4⟩
        obtain ⟨j, rfl⟩ := hfit.open
        refine nR80 ?_
        clear hfit
        refine run_seq ?_
        refine run_seq ?_
        refine run_region ?_
        refine ops_val (ex_move rfl) ?_
        refine ops_val (ex_move rfl) ?_
        refine ops_val (ex_nilCheck rfl) ?_
        refine ops_val (ex_load ty25 rfl (cell_to hcq H4 hbq)) ?_
        refine nO80 ?_
        refine ops_val (ex_len_slice Tryz.underlying25 rfl) ?_
        refine ops_test (ex_lss rfl rfl) (fun hp38 => ?_) (fun hp38 => ?_)
        · have hql : q < x.length := by omega
          obtain ⟨⟨so, sl⟩, hst⟩ : ∃ s, wl thdeal x q st = s := ⟨_, rfl⟩
          rw [hst] at hP H4
          refine ops_val (ex_move rfl) ?_
          refine nO80 ?_
          refine ops_yes rfl ?_
          refine ops_val (ex_move rfl) ?_
          refine ops_yes rfl ?_
          refine ops_val (ex_nilCheck rfl) ?_
          refine nO80 ?_
          refine ops_yes rfl ?_
          refine ops_val (ex_fieldAddr fl80_2 rfl) ?_
          refine ops_yes rfl ?_
          refine ops_val (ex_load ty4 rfl (H4.cell (i := 0) rfl rfl)) ?_
          refine nO80 ?_
          refine ops_yes rfl ?_
          refine ops_val (ex_not rfl) ?_
          refine ops_val (ex_pick_t rfl rfl) ?_
          refine ops_nil ?_
          refine nR80 ?_
          refine run_cond rfl (fun hb45 => ?_) (fun hb45 => ?_)
          · have hsl : sl = false := by simpa using hb45
            subst hsl
            refine run_skip ?_
            refine run_seq ?_
            refine run_block ?_
            refine run_region ?_
            refine ops_val (ex_move rfl) ?_
            refine ops_val (ex_move rfl) ?_
            refine ops_val (ex_nilCheck rfl) ?_
            refine ops_val (ex_load ty25 rfl (cell_to hcq H4 hbq)) ?_
            refine nO80 ?_
            refine ops_val (ex_move rfl) ?_
            obtain ⟨pa, hpa⟩ := hrd.some_ (by omega)
            subst hpa
            refine ops_val (ex_idx Tryz.underlying25 ty74 rfl rfl rfl hql rfl) ?_
            have hpb := hap (by omega) pa rfl
            have hMq := thdeal.to (hel q hql) H4 (fun _ h => h)
            refine ops_call (ex_call_bound gf39 rfl rfl) (pdeal_W gp g cap sp _ (pa.add (q * 8)) x[q] _ _ H4.here hP (thdeal.mono hMq fun _ h => h.2) ((elem_cl hrd hql hpb).to H4) (fun h => by cases h)) ?_
            rintro _ w5 ⟨g, cap, sp, hP2, Hd⟩
            have H5 := H4.all Hd
            refine ops_nil ?_
            refine nR80 ?_
            refine run_nil (blk_normal ?_)
            refine run_region ?_
            refine ops_val (ex_move rfl) ?_
            refine ops_val (ex_add rfl rfl (IntWalk.i64_in _ (by omega))) ?_
            refine ops_val (ex_assign rfl) ?_
            refine ops_nil ?_
            refine nR80 ?_
            refine run_nil (rnd_normal ?_)
            exact ⟨x.length - (q + 1), by omega, q + 1, _, g, cap, sp, rfl, (fs (fs (fs (fn (fn (fn (fs (fn (fn (fn (fn (fn (fn (fn (fn (fn (fn (fn (fn (fn (fn (fn (fn (fn (fn (fn (fn (fn (fn (fn (fn (fn (fn (fn (fn (fn (fn (fn (fn (fn (fn (fn (fn (fn (fn (fn (fn (fn (fn (fn (fn (fn (fn (fn (fn (fn (fn (fn (fn (fn (fn (fn (fn (fn (fn (fn (fn (fn (fn (fn (fn (fn (fn (fn (fn (fn (fn (fn (fn (fn f0)))))))))))))))))))))))))))))))))))))))))))))))))))))))))))))))))))))))))))))))), rfl, by omega, by rw [wl_succ hql, hst]; exact hP2, by rw [wl_succ hql, hst]; exact H5⟩
          · have hsl : sl = true := by simpa using hb45
            subst hsl
            refine run_exit ?_
            refine rnd_exit ?_
            refine blk_exit ?_
            refine run_ret ?_
            refine fin_ret0 rfl ?_
            have e := wl_stop (A := thdeal) false (x := x) (q := q) (st := st) (by rw [hst])
            rw [e, hst]
            exact ⟨g, cap, sp, hP, H4⟩
        · have hqm : q = x.length := by omega
          subst hqm
          refine ops_val (ex_move rfl) ?_
          refine nO80 ?_
          refine ops_no rfl ?_
          refine ops_no rfl ?_
          refine nO80 ?_
          refine ops_no rfl ?_
          refine ops_no rfl ?_
          refine nO80 ?_
          refine ops_no rfl ?_
          refine ops_val (ex_pick_f rfl rfl) ?_
          refine ops_nil ?_
          refine nR80 ?_
          refine run_cond_false rfl ?_
          refine run_exit ?_
          refine rnd_exit ?_
          refine blk_exit ?_
          refine run_ret ?_
          refine fin_ret0 rfl ?_
          rw [wl_all thdeal false] at hP H4
          exact ⟨g, cap, sp, hP, H4⟩
theorem pldeal_W : PenWL Tryz.prog 38 39 (Th.many thdeal false) := pldeal_w
set_option maxRecDepth 100000 in
set_option maxHeartbeats 4000000 in
theorem pldeal_r (gp gr : Nat) (gb : Option Nat) (cb : Nat) (sb : List Value) (b : List UInt8) (hcb : b.length ≤ cb) (hbl : b.length ≤ 65536) (go o i e : Nat) (U : TypeId) (cs : List Value) (w0 : World) (H0 : Hp w0 w0 (bl (pr gp gr gb cb sb b i e ++ [(some go, U, cs)])) (pr gp gr gb cb sb b i e ++ [(some go, U, cs)])) (hi : i ≤ b.length) (hat : At cs o (Th.many thdeal false).zs) (hfit : o + (Th.many thdeal false).sz ≤ cs.length) :
    Does Tryz.prog 38 #[.pointer (some ⟨gp, 0, none⟩), .pointer (some ⟨go, o, none⟩), .func (.func 39) [.pointer (some ⟨gp, 0, none⟩)].toArray #[]] w0 (fun _ w' => RdOut (pr gp gr gb cb sb b) (Th.many thdeal false) go o U cs b i e w0.heap.size w0 (bl (pr gp gr gb cb sb b i e ++ [(some go, U, cs)])) w') := by
  refine does_of Tryz.func38 Tryz.ntmps38 rfl ?_
  refine nR80 ?_
  have H := H0
  change o + 1 ≤ cs.length at hfit
  have hcq : cs[o]? = some (Value.slice none 0 0) := by have := hat 0 _ rfl; rwa [Nat.add_zero] at this
  have hrow : putAt cs o [Value.slice none 0 0] = cs := putAt_same hat (by simpa using hfit)
  refine run_seq ?_
  refine run_seq ?_
  refine run_region ?_
  refine ops_val (ex_move rfl) ?_
  have hk := pstop_r gp gr gb cb sb b i e _ (Hp.less (es := pr gp gr gb cb sb b i e) (R := [(some go, U, cs)]) H).here hcb hbl hi
  refine ops_call_val (ex_call gf63 rfl) hk ?_
  intro w1 Hd
  have H1 := Hp.front (R := [(some go, U, cs)]) H Hd
  refine ops_nil ?_
  refine nR80 ?_
  refine run_cond rfl (fun hb11 => ?_) (fun hb11 => ?_)
  · have hbe : e ≠ 0 := by simpa using hb11
    refine run_ret ?_
    refine fin_ret0 rfl ?_
    have hbd := (Th.many thdeal false).bad (b := b) (i := i) hbe
    unfold RdOut
    rw [hbd]
    refine ⟨[Value.slice none 0 0], rfl, rfl, by rw [hrow]; exact H1, fun h => absurd h hbe⟩
  · have hbe : e = 0 := by simpa using hb11
    refine run_skip ?_
    refine run_seq ?_
    refine run_seq ?_
    refine run_region ?_
    refine ops_val (ex_move rfl) ?_
    refine ops_val (ex_nilCheck rfl) ?_
    refine ops_val (ex_fieldAddr fl80_0 rfl) ?_
    refine ops_val (ex_load ty78 rfl (H1.cell (i := 0) rfl rfl)) ?_
    refine nO80 ?_
    refine ops_false (ex_eql_nil_ptr Tryz.underlying78 rfl) (by simp) ?_
    refine ops_nil ?_
    refine nR80 ?_
    refine run_cond_false rfl ?_
    refine run_skip ?_
    refine run_seq ?_
    refine run_region ?_
    refine ops_val (ex_move rfl) ?_
    refine ops_val (ex_nilCheck rfl) ?_
    refine ops_val (ex_fieldAddr fl80_0 rfl) ?_
    refine ops_val (ex_load ty78 rfl (H1.cell (i := 0) rfl rfl)) ?_
    refine nO80 ?_
    obtain ⟨⟨nn, ic, ec⟩, hcn⟩ : ∃ s, countStep b 1024 i e = s := ⟨_, rfl⟩
    have hcb2 := countStep_le (b := b) (most := 1024) (i := i) (e := e) hi
    have hic := hcb2.1
    have hn3 := hcb2.2.2.1
    rw [hcn] at hic hn3
    simp only at hic hn3
    have hnn : nn ≤ 1024 := by have : ((nn : Nat) : Int) ≤ max 1024 0 := hn3; omega
    have hmr : (Th.many thdeal false).rd b i e = rdN thdeal b nn ic ec := by
      show rdN thdeal b (countStep b 1024 i e).1 (countStep b 1024 i e).2.1 (countStep b 1024 i e).2.2 = _
      rw [hcn]
    have hk := count_rd gr (hd gb) cb b i e _ (rdr_of H1 (j := 1) (k := 2) rfl rfl (by decide) hcb (by omega) hi) 1024 (by decide) (by decide)
    rw [hcn] at hk
    refine ops_call_val (ex_call gf69 rfl) hk ?_
    intro w2 Hd
    have HN0 := (H1.call1 (i := 1) rfl Hd).pick [0, 4, 2, 3] (by decide)
    have H2 : Hp w0 w2 (bl (pr gp gr gb cb sb b i e ++ [(some go, U, cs)])) (pr gp gr gb cb sb b ic ec ++ [(some go, U, putAt cs o [Value.slice none 0 0])]) := by rw [hrow]; exact HN0
    refine ops_val (ex_assign rfl) ?_
    refine ops_nil ?_
    refine nR80 ?_
    refine run_seq ?_
    refine run_region ?_
    refine ops_val (ex_assign rfl) ?_
    refine ops_nil ?_
    refine nR80 ?_
    refine run_block ?_
    refine run_loop (fun n l w => ∃ (q : Nat) (y : Int) (i1 e1 : Nat) (xs : List thdeal.X) (uc spl : List Value) (gl : Option Nat) (capl : Nat), nn - q = n ∧ Fits [some (.pointer (some ⟨gp, 0, none⟩)), some (.pointer (some ⟨go, o, none⟩)), some (.func (.func 39) [.pointer (some ⟨gp, 0, none⟩)].toArray #[]), none, none, none, none, some (.int .i64 (nn : Int)), some (.int .i64 y), none, none, none, none, none, none, none, none, none, none, none, none, none, none, none, none, none, none, none, none, none, none, none, none, none, none, none, none, none, none, none, none, none, none, none, none, none, none, none, none, none, none, none, none, none, none, none, none, none, none, none, none, none, none, none, none, none, none, none, none, none, none, none, none, none, none, none, none, none, none, none] l ∧ y = q ∧ q ≤ nn ∧ xs.length = q ∧ rdN thdeal b nn ic ec = (xs ++ (rdN thdeal b (nn - q) i1 e1).1, (rdN thdeal b (nn - q) i1 e1).2) ∧ i1 ≤ b.length ∧ uc.length = q * 8 ∧ uc.all (·.oneCell') = true ∧ q ≤ capl ∧ capl * 8 ≤ (uc ++ spl).length ∧ (gl = none → capl = 0) ∧ Hp w0 w (bl (pr gp gr gb cb sb b i e ++ [(some go, U, cs)])) ((pr gp gr gb cb sb b i1 e1 ++ [(some go, U, putAt cs o [Value.slice (hd gl) q capl])]) ++ [(gl, 74, uc ++ spl)]) ∧ (e1 = 0 → ∀ j (hj : j < xs.length), thdeal.M w (Fr w w0.heap.size ((pr gp gr gb cb sb b i1 e1 ++ [(some go, U, putAt cs o [Value.slice (hd gl) q capl])]) ++ [(gl, 74, uc ++ spl)])) xs[j] ((uc.drop (j * 8)).take 8))) (nn) ?_ ?_
    · exact ⟨0, _, ic, ec, [], [], [], none, 0, rfl, (fs (fs (fs (fn (fn (fn (fn (fs (fs (fn (fn (fn (fn (fn (fn (fn (fn (fn (fn (fn (fn (fn (fn (fn (fn (fn (fn (fn (fn (fn (fn (fn (fn (fn (fn (fn (fn (fn (fn (fn (fn (fn (fn (fn (fn (fn (fn (fn (fn (fn (fn (fn (fn (fn (fn (fn (fn (fn (fn (fn (fn (fn (fn (fn (fn (fn (fn (fn (fn (fn (fn (fn (fn (fn (fn (fn (fn (fn (fn (fn f0)))))))))))))))))))))))))))))))))))))))))))))))))))))))))))))))))))))))))))))))), rfl, Nat.zero_le _, rfl, rfl, hic, rfl, rfl, Nat.le_refl _, Nat.zero_le _, fun _ => rfl, (H2.nil 74), fun _ j hj => by cases hj⟩
    · rintro n l w3 ⟨q, y, i1, e1, xs, uc, spl, gl, capl, rfl, hfit, rfl, hq, hxs, hrd, hi1, hul, huo, hqc, hcl, hgl, H3, hel⟩
      obtain ⟨j, rfl⟩ := hfit.open
      refine nR80 ?_
      clear hfit
      refine run_seq ?_
      refine run_seq ?_
      refine run_region ?_
      refine ops_val (ex_move rfl) ?_
      refine ops_val (ex_move rfl) ?_
      refine ops_test (ex_lss rfl rfl) (fun hp62 => ?_) (fun hp62 => ?_)
      · have hql : q < nn := by omega
        refine ops_val (ex_move rfl) ?_
        refine nO80 ?_
        refine ops_yes rfl ?_
        refine ops_val (ex_move rfl) ?_
        refine ops_yes rfl ?_
        have HZ : Hp w0 w3 (bl (pr gp gr gb cb sb b i e ++ [(some go, U, cs)])) (pr gp gr gb cb sb b i1 e1 ++ [(some go, U, putAt cs o [Value.slice (hd gl) q capl]), (gl, 74, uc ++ spl)]) := H3
        have hk := pstop_r gp gr gb cb sb b i1 e1 _ (Hp.less (es := pr gp gr gb cb sb b i1 e1) HZ).here hcb hbl hi1
        refine ops_call_val (ex_call gf63 rfl) hk ?_
        intro w4 Hd
        replace hel := fun h0 j hj => Fr.to (hel h0 j hj) (Hp.front (R := [(some go, U, putAt cs o [Value.slice (hd gl) q capl]), (gl, 74, uc ++ spl)]) HZ.here Hd)
        have H4 := Hp.front HZ Hd
        refine nO80 ?_
        refine ops_yes rfl ?_
        refine ops_val (ex_not rfl) ?_
        refine ops_val (ex_pick_t rfl rfl) ?_
        refine ops_nil ?_
        refine nR80 ?_
        refine run_cond rfl (fun hb67 => ?_) (fun hb67 => ?_)
        · have he1 : e1 = 0 := by simpa using hb67
          refine run_skip ?_
          refine run_seq ?_
          refine run_block ?_
          refine run_seq ?_
          refine run_region ?_
          have HB := H4
          replace H4 := HB.here
          refine ops_alloc ty74 H4 ?_
          intro w5 gx H5 hgx
          refine ops_nil ?_
          refine nR80 ?_
          refine run_seq ?_
          refine run_region ?_
          refine ops_val (ex_move rfl) ?_
          have HX : Hp _ w5 _ ((pr gp gr gb cb sb b i1 e1 ++ [(some gx, 74, [.int .i64 0, .int .i64 0, .string .empty, .string .empty, .int .i64 0, .int .i64 0, .int .i64 0, .int .i64 0])]) ++ [(some go, U, putAt cs o [Value.slice (hd gl) q capl]), (gl, 74, uc ++ spl)]) := H5.pick [0, 1, 2, 5, 3, 4] (by decide)
          obtain ⟨⟨xv, i2, e2⟩, hx⟩ : ∃ s, thdeal.rd b i1 e1 = s := ⟨_, rfl⟩
          have hi2 : i2 ≤ b.length := by have := thdeal.le (b := b) (e := e1) hi1; rw [hx] at this; exact this
          refine ops_call (ex_call_bound gf39 rfl rfl) (pdeal_R gp gr gb cb sb b hcb hbl gx 0 i1 e1 74 _ _ HX.less.here hi1 (At.self _) (Nat.le_refl _)) ?_
          rintro _ w6 ⟨us, hus, huno, Hd, hMx⟩
          rw [hx] at Hd hMx
          simp only at Hd hMx
          have hpu : putAt [.int .i64 0, .int .i64 0, .string .empty, .string .empty, .int .i64 0, .int .i64 0, .int .i64 0, .int .i64 0] 0 us = us := putAt_all hus
          rw [hpu] at Hd hMx
          have hnsz := Nat.le_trans HB.size HX.size
          have HC := HX.front Hd
          replace hMx := fun h0 => thdeal.mono (ok' := Fr w6 w0.heap.size ((pr gp gr gb cb sb b i2 e2 ++ [(some gx, 74, us)]) ++ [(some go, U, putAt cs o [Value.slice (hd gl) q capl]), (gl, 74, uc ++ spl)])) (hMx h0) (fun p hp => ⟨by have := hp.1; omega, fun hq => by
            rw [bl_append] at hq
            rcases List.mem_append.1 hq with hq | hq
            · exact hp.2.1 hq
            · have h1 := bl_lt HX (b := p) (by rw [bl_append]; exact List.mem_append_right _ hq)
              have := hp.1
              omega, hp.2.2⟩)
          replace hel := fun h0 j hj => Fr.to (hel h0 j hj) HC
          have H6 := HC.here
          refine ops_nil ?_
          refine nR80 ?_
          refine run_mixZ 8 [(true, 0), (true, 1), (true, 2), (true, 3), (true, 4), (false, 5), (false, 6), (true, 7), (false, 8)] H6 [0, 1, 2, 3, 4] mixed (by decide) (by kernel_rfl) ?_
          rintro w7 hw7
          have H7 := Hp.drew H6; rw [← hw7] at H7
          refine mixz_p rfl ?_
          refine mix1_val (fun wz hz => ex_move rfl) ?_
          refine mixz_p rfl ?_
          refine mix1_val (fun wz hz => ex_move rfl) ?_
          refine mixz_p rfl ?_
          refine mix1_val (fun wz hz => ex_nilCheck rfl) ?_
          refine mixz_p rfl ?_
          refine mix1_val (fun wz hz => ex_load ty25 rfl (hz.cell (i := 4) rfl (show (putAt cs o [Value.slice (hd gl) q capl])[o]? = some (Value.slice (hd gl) q capl) from by rw [putAt_get (by simpa using hfit), if_neg (by omega), if_pos (by simp)]; simp))) ?_
          refine nZ80 ?_
          refine mixz_p rfl ?_
          refine mix1_val (fun wz hz => ex_loadN ty74 rfl (vs := us) hus (hz.cells (i := 3) rfl)) ?_
          refine mixz_o rfl ?_
          refine ops_build1 Tryz.underlying25 ty74 H7 rfl rfl hus (by decide) ?_
          intro w8 gn H8 hgn
          refine ops_nil ?_
          refine ⟨fun hne => H8.pick [0, 1, 2, 3, 4] (by decide), ?_⟩
          refine nZ80 ?_
          refine mixz_o rfl ?_
          refine ops_append Tryz.underlying25 ty74 (by decide) H8 5 (g := gl) (xs := uc) (sp := spl) rfl rfl hul hcl hqc hgl rfl (H8.rd (i := 6) (o := some gn) (xs := us) (sp := []) (by rw [List.append_nil]; rfl) (by rw [hus, Nat.one_mul]; rfl) (by decide)) huno (by omega) (by omega) (by decide) ?_
          intro w9 gl2 capl2 spl2 H9 hcl2 hqc2 hgl2
          refine ops_nil ?_
          refine ⟨fun hne => H9.pick [0, 1, 2, 3, 4] (by decide), ?_⟩
          refine nZ80 ?_
          refine mixz_p rfl ?_
          refine mix1_val (fun wz hz => ex_nilCheck rfl) ?_
          refine mixz_o rfl ?_
          refine ops_store1 ty25 H9 4 rfl rfl rfl rfl (by rw [putAt_len (by simpa using hfit)]; omega) rfl ?_
          intro w10 HS0
          have hset2 : (putAt cs o [Value.slice (hd gl) q capl]).set o (Value.slice (hd gl2) (q + 1) capl2) = putAt cs o [Value.slice (hd gl2) (q + 1) capl2] := by
            apply List.ext_getElem?
            intro j
            rw [List.getElem?_set, putAt_len (by simpa using hfit), putAt_get (by simpa using hfit), putAt_get (by simpa using hfit)]
            by_cases hj : o = j
            · subst hj; rw [if_pos rfl, if_pos (by omega), if_neg (by omega), if_pos (by simp)]; simp
            · rw [if_neg hj]
              split
              · rfl
              · rw [if_neg (by simp; omega), if_neg (by simp; omega)]
          have H10 := HS0
          refine ops_nil ?_
          refine ⟨fun hne => absurd rfl hne, ?_⟩
          refine nZ80 ?_
          refine mixz_nil ?_
          refine nR80 ?_
          refine run_nil (blk_normal ?_)
          refine run_region ?_
          refine ops_val (ex_move rfl) ?_
          refine ops_val (ex_add rfl rfl (IntWalk.i64_in _ (by omega))) ?_
          refine ops_val (ex_assign rfl) ?_
          refine ops_nil ?_
          refine nR80 ?_
          refine run_nil (rnd_normal ?_)
          have h1 := H10.pick [0, 1, 2, 4, 5] (by decide)
          rw [hset2] at h1
          have HR := (show ∀ (wa wb : World) (SS : List Nat), Hp wa wb SS ((pr gp gr gb cb sb b i2 e2 ++ [(some go, U, putAt cs o [Value.slice (hd gl2) (q + 1) capl2])]) ++ [(gl2, 74, (uc ++ us) ++ spl2)]) → Hp wa wb SS ((pr gp gr gb cb sb b i2 e2 ++ [(some go, U, putAt cs o [Value.slice (hd gl2) (q + 1) capl2])]) ++ [(gl2, 74, (uc ++ us) ++ spl2)]) from fun _ _ _ h => h) _ _ _ h1
          refine ⟨nn - (q + 1), by omega, q + 1, _, i2, e2, xs ++ [xv], uc ++ us, spl2, gl2, capl2, rfl, (fs (fs (fs (fn (fn (fn (fn (fs (fs (fn (fn (fn (fn (fn (fn (fn (fn (fn (fn (fn (fn (fn (fn (fn (fn (fn (fn (fn (fn (fn (fn (fn (fn (fn (fn (fn (fn (fn (fn (fn (fn (fn (fn (fn (fn (fn (fn (fn (fn (fn (fn (fn (fn (fn (fn (fn (fn (fn (fn (fn (fn (fn (fn (fn (fn (fn (fn (fn (fn (fn (fn (fn (fn (fn (fn (fn (fn (fn (fn (fn f0)))))))))))))))))))))))))))))))))))))))))))))))))))))))))))))))))))))))))))))))), rfl, by omega, by simp [hxs], ?_, hi2, by rw [List.length_append, hul, hus]; show q * 8 + 8 = (q + 1) * 8; omega, by rw [List.all_append, huo, huno]; rfl, hqc2, hcl2, hgl2, (HB.all HC).all HR, ?_⟩
          · rw [hrd, rdN_step hql he1 hx, List.append_assoc]; rfl
          · intro h0 j hj
            simp only [List.length_append, List.length_cons, List.length_nil] at hj
            by_cases hjq : j < xs.length
            · rw [List.getElem_append_left hjq]
              have hd1 : ((uc ++ us).drop (j * 8)).take 8 = (uc.drop (j * 8)).take 8 := by
                have h1 : (j + 1) * 8 ≤ q * 8 := Nat.mul_le_mul_right _ (by omega)
                rw [List.drop_append_of_le_length (by omega), List.take_append_of_le_length (by rw [List.length_drop]; omega)]
              rw [hd1]
              exact Fr.to (hel he1 j hjq) HR
            · have hjj : j = xs.length := by omega
              subst hjj
              rw [List.getElem_append_right (Nat.le_refl _)]
              have hd2 : ((uc ++ us).drop (xs.length * 8)).take 8 = us := by
                rw [hxs, ← hul, List.drop_left]
                exact List.take_of_length_le (Nat.le_of_eq hus)
              simp only [Nat.sub_self, List.getElem_cons_zero]
              rw [hd2]
              exact Fr.to (hMx h0) HR
        · have he1 : e1 ≠ 0 := by simpa using hb67
          refine run_exit ?_
          refine rnd_exit ?_
          refine blk_exit ?_
          refine run_nil ?_
          refine fin_end0 rfl ?_
          have hrw : (Th.many thdeal false).rd b i e = (xs, i1, e1) := by rw [hmr, hrd]; first | (rw [rdN_bad _ _ _ he1]; simp) | (simp [rdN])
          unfold RdOut
          rw [hrw]
          have HF : Hp w0 w4 _ ((pr gp gr gb cb sb b i1 e1 ++ [(some go, U, putAt cs o [Value.slice (hd gl) q capl])]) ++ [(gl, 74, uc ++ spl)]) := H4
          refine ⟨[Value.slice (hd gl) q capl], rfl, rfl, HF.less, fun h0 => ⟨hd gl, capl, uc, by rw [hxs], ⟨by rw [hxs]; omega, fun _ => by decide⟩, by rw [hxs]; exact HF.rd (i := 4) (o := gl) (xs := uc) (sp := spl) rfl hul (by decide), fun _ p hp => ⟨place_new HF rfl (i := 0) rfl p hp, row_apart HF (i := 0) rfl p hp, HF.tw (i := 4) rfl p hp⟩, fun _ _ p hp => HF.tw (i := 4) rfl p hp, fun j hj => thdeal.mono (hel h0 j hj) (fun p hp => ⟨hp.1, fun hq => hp.2.1 (show p ∈ bl ((pr gp gr gb cb sb b i1 e1 ++ [(some go, U, putAt cs o [Value.slice (hd gl) q capl])]) ++ [(gl, 74, uc ++ spl)]) from bl_left hq), hp.2.2⟩)⟩⟩
      · have hqm : q = nn := by omega
        subst hqm
        refine ops_val (ex_move rfl) ?_
        refine nO80 ?_
        refine ops_no rfl ?_
        refine ops_no rfl ?_
        refine nO80 ?_
        refine ops_no rfl ?_
        refine ops_val (ex_pick_f rfl rfl) ?_
        refine ops_nil ?_
        refine nR80 ?_
        refine run_cond_false rfl ?_
        refine run_exit ?_
        refine rnd_exit ?_
        refine blk_exit ?_
        refine run_nil ?_
        refine fin_end0 rfl ?_
        have hrw : (Th.many thdeal false).rd b i e = (xs, i1, e1) := by rw [hmr, hrd]; first | (rw [rdN_bad _ _ _ he1]; simp) | (simp [rdN])
        unfold RdOut
        rw [hrw]
        have HF : Hp w0 w3 _ ((pr gp gr gb cb sb b i1 e1 ++ [(some go, U, putAt cs o [Value.slice (hd gl) q capl])]) ++ [(gl, 74, uc ++ spl)]) := H3
        refine ⟨[Value.slice (hd gl) q capl], rfl, rfl, HF.less, fun h0 => ⟨hd gl, capl, uc, by rw [hxs], ⟨by rw [hxs]; omega, fun _ => by decide⟩, by rw [hxs]; exact HF.rd (i := 4) (o := gl) (xs := uc) (sp := spl) rfl hul (by decide), fun _ p hp => ⟨place_new HF rfl (i := 0) rfl p hp, row_apart HF (i := 0) rfl p hp, HF.tw (i := 4) rfl p hp⟩, fun _ _ p hp => HF.tw (i := 4) rfl p hp, fun j hj => thdeal.mono (hel h0 j hj) (fun p hp => ⟨hp.1, fun hq => hp.2.1 (show p ∈ bl ((pr gp gr gb cb sb b i1 e1 ++ [(some go, U, putAt cs o [Value.slice (hd gl) q capl])]) ++ [(gl, 74, uc ++ spl)]) from bl_left hq), hp.2.2⟩)⟩⟩
theorem pldeal_R : PenRL Tryz.prog 38 39 (Th.many thdeal false) := pldeal_r
set_option maxRecDepth 100000 in
set_option maxHeartbeats 4000000 in
theorem plend_w (gp : Nat) (g0 : Option Nat) (cap0 : Nat) (sp0 : List Value) (st : WS) (a : Addr) (x : List thend.X) (vs : List Value) (w0 : World) (H0 : Hp w0 w0 (bl (pw gp g0 cap0 sp0 st)) (pw gp g0 cap0 sp0 st)) (hP : POk 65536 g0 cap0 sp0 st) (hM : (Th.many thend false).M w0 (fun b => b ∉ bl (pw gp g0 cap0 sp0 st)) x vs) (hC : Cl w0 (bl (pw gp g0 cap0 sp0 st)) a vs) :
    Does Tryz.prog 40 #[.pointer (some ⟨gp, 0, none⟩), .pointer (some a), .func (.func 41) [.pointer (some ⟨gp, 0, none⟩)].toArray #[]] w0 (fun _ w' => PwOut gp (wAll ((Th.many thend false).fl x) st) w0 (bl (pw gp g0 cap0 sp0 st)) w') := by
  refine does_of Tryz.func40 Tryz.ntmps40 rfl ?_
  refine nR80 ?_
  have H := H0
  obtain ⟨B, c, cells, rfl, hz, hrd, hap, ht, hel⟩ := hM
  have hcq : w0.cell? a = some (.slice B x.length c) := by have := hC.cell 0 _ rfl; rwa [Addr.add_zero'] at this
  have hbq := hC.apart (by simp)
  refine run_seq ?_
  refine run_seq ?_
  refine run_region ?_
  refine ops_val (ex_move rfl) ?_
  have hk := pstop_w gp g0 cap0 sp0 st _ H.here
  refine ops_call_val (ex_call gf63 rfl) hk ?_
  intro w1 Hd
  have H1 := H.all Hd
  refine ops_nil ?_
  refine nR80 ?_
  refine run_cond rfl (fun hb11 => ?_) (fun hb11 => ?_)
  · skip
    refine run_ret ?_
    refine fin_ret0 rfl ?_
    have e : wAll ((Th.many thend false).fl x) st = st := wAll_long hb11
    rw [e]
    exact ⟨g0, cap0, sp0, hP, H1⟩
  · skip
    refine run_skip ?_
    refine run_seq ?_
    refine run_seq ?_
    refine run_region ?_
    refine ops_val (ex_move rfl) ?_
    refine ops_val (ex_nilCheck rfl) ?_
    refine ops_val (ex_fieldAddr fl80_0 rfl) ?_
    refine ops_val (ex_load ty78 rfl (H1.cell (i := 0) rfl rfl)) ?_
    refine nO80 ?_
    refine ops_true (ex_eql_nil_ptr Tryz.underlying78 rfl) (rfl) ?_
    refine ops_nil ?_
    refine nR80 ?_
    refine run_cond_true rfl ?_
    refine run_seq ?_
    refine run_seq ?_
    refine run_region ?_
    refine ops_val (ex_move rfl) ?_
    refine ops_val (ex_nilCheck rfl) ?_
    refine ops_val (ex_load ty26 rfl (cell_to hcq H1 hbq)) ?_
    refine ops_val (ex_len_slice Tryz.underlying26 rfl) ?_
    refine nO80 ?_
    refine ops_test (ex_gtr rfl rfl) (fun hp21 => ?_) (fun hp21 => ?_)
    · skip
      refine ops_nil ?_
      refine nR80 ?_
      refine run_cond_true rfl ?_
      refine run_seq ?_
      refine run_region ?_
      refine ops_val (ex_move rfl) ?_
      refine ops_val (ex_nilCheck rfl) ?_
      refine ops_val (ex_fieldAddr fl80_2 rfl) ?_
      refine ops_store1 ty4 H1 0 rfl rfl rfl rfl (by first | decide | simp) rfl ?_
      intro w2 H2
      refine ops_nil ?_
      refine nR80 ?_
      refine run_ret ?_
      refine fin_ret0 rfl ?_
      have e := wl_too (A := thend) false hb11 (x := x) (by omega)
      rw [e]
      exact ⟨g0, cap0, sp0, ⟨hP.1, hP.2, hP.3, hP.4⟩, H2⟩
    · have hzero : wl thend x 0 st = wPut (enc x.length) st := by rw [wl_zero]; exact wFld_put hb11 (by simp [tooLong]; omega)
      refine ops_nil ?_
      refine nR80 ?_
      refine run_cond_false rfl ?_
      refine run_skip ?_
      refine run_seq ?_
      refine run_region ?_
      refine ops_val (ex_move rfl) ?_
      refine ops_val (ex_move rfl) ?_
      refine ops_val (ex_nilCheck rfl) ?_
      refine ops_val (ex_load ty26 rfl (cell_to hcq H1 hbq)) ?_
      refine nO80 ?_
      refine ops_val (ex_len_slice Tryz.underlying26 rfl) ?_
      refine ops_val (ex_conv Tryz.underlying136 Tryz.underlying3 rfl (IntWalk.u64_in _ (by omega))) ?_
      have hxl : (enc x.length).length ≤ 1000000000 := by have := enc_len64 (v := x.length) (by omega); omega
      refine ops_call_own (ex_call gf68 rfl) (num_any x.length _ (by omega)) ?_
      intro w2 g1 c1 sp1 hm1 hc1 hg1 Hd
      have H2 := H1.call0 Hd
      have HQ : Hp w0 w2 _ (pw gp g0 cap0 sp0 st ++ [(g1, 5, u8s (enc x.length) ++ sp1)]) := H2
      have hk := pput_w gp g0 cap0 sp0 st _ (HQ.less (es := pw gp g0 cap0 sp0 st) (R := [(g1, 5, u8s (enc x.length) ++ sp1)])).here hP (hd g1) (enc x.length) c1 (HQ.rd (i := 2) (o := g1) (xs := u8s (enc x.length)) (sp := sp1) rfl (u8s_length1 _) (by decide)) (row_apart HQ (i := 0) rfl) hxl
      refine ops_call (ex_call gf64 rfl) hk ?_
      rintro _ w3 ⟨g, cap, sp, hP2, Hd⟩
      have H3 := Hp.less (es := pw gp g cap sp _) (R := [(g1, 5, u8s (enc x.length) ++ sp1)]) (HQ.front Hd)
      refine ops_nil ?_
      refine nR80 ?_
      refine run_seq ?_
      refine run_seq ?_
      refine run_region ?_
      refine ops_val (ex_assign rfl) ?_
      refine ops_nil ?_
      refine nR80 ?_
      refine run_block ?_
      refine run_loop (fun n l w => ∃ (q : Nat) (y : Int) (g : Option Nat) (cap : Nat) (sp : List Value), x.length - q = n ∧ Fits [some (.pointer (some ⟨gp, 0, none⟩)), some (.pointer (some a)), some (.func (.func 41) [.pointer (some ⟨gp, 0, none⟩)].toArray #[]), none, none, none, some (.int .i64 y), none, none, none, none, none, none, none, none, none, none, none, none, none, none, none, none, none, none, none, none, none, none, none, none, none, none, none, none, none, none, none, none, none, none, none, none, none, none, none, none, none, none, none, none, none, none, none, none, none, none, none, none, none, none, none, none, none, none, none, none, none, none, none, none, none, none, none, none, none, none, none, none, none] l ∧ y = q ∧ q ≤ x.length ∧ POk 65536 g cap sp (wl thend x q st) ∧ Hp w0 w (bl (pw gp g0 cap0 sp0 st)) (pw gp g cap sp (wl thend x q st))) (x.length) ?_ ?_
      · exact ⟨0, _, g, cap, sp, rfl, (fs (fs (fs (fn (fn (fn (fs (fn (fn (fn (fn (fn (fn (fn (fn (fn (fn (fn (fn (fn (fn (fn (fn (fn (fn (fn (fn (fn (fn (fn (fn (fn (fn (fn (fn (fn (fn (fn (fn (fn (fn (fn (fn (fn (fn (fn (fn (fn (fn (fn (fn (fn (fn (fn (fn (fn (fn (fn (fn (fn (fn (fn (fn (fn (fn (fn (fn (fn (fn (fn (fn (fn (fn (fn (fn (fn (fn (fn (fn (fn f0)))))))))))))))))))))))))))))))))))))))))))))))))))))))))))))))))))))))))))))))), rfl, Nat.zero_le _, by rw [hzero]; exact hP2, by rw [hzero]; exact H3⟩
      · rintro n l w4 ⟨q, y, g, cap, sp, rfl, hfit, rfl, hq, hP, H4⟩
        obtain ⟨j, rfl⟩ := hfit.open
        refine nR80 ?_
        clear hfit
        refine run_seq ?_
        refine run_seq ?_
        refine run_region ?_
        refine ops_val (ex_move rfl) ?_
        refine ops_val (ex_move rfl) ?_
        refine ops_val (ex_nilCheck rfl) ?_
        refine ops_val (ex_load ty26 rfl (cell_to hcq H4 hbq)) ?_
        refine nO80 ?_
        refine ops_val (ex_len_slice Tryz.underlying26 rfl) ?_
        refine ops_test (ex_lss rfl rfl) (fun hp38 => ?_) (fun hp38 => ?_)
        · have hql : q < x.length := by omega
          obtain ⟨⟨so, sl⟩, hst⟩ : ∃ s, wl thend x q st = s := ⟨_, rfl⟩
          rw [hst] at hP H4
          refine ops_val (ex_move rfl) ?_
          refine nO80 ?_
          refine ops_yes rfl ?_
          refine ops_val (ex_move rfl) ?_
          refine ops_yes rfl ?_
          refine ops_val (ex_nilCheck rfl) ?_
          refine nO80 ?_
          refine ops_yes rfl ?_
          refine ops_val (ex_fieldAddr fl80_2 rfl) ?_
          refine ops_yes rfl ?_
          refine ops_val (ex_load ty4 rfl (H4.cell (i := 0) rfl rfl)) ?_
          refine nO80 ?_
          refine ops_yes rfl ?_
          refine ops_val (ex_not rfl) ?_
          refine ops_val (ex_pick_t rfl rfl) ?_
          refine ops_nil ?_
          refine nR80 ?_
          refine run_cond rfl (fun hb45 => ?_) (fun hb45 => ?_)
          · have hsl : sl = false := by simpa using hb45
            subst hsl
            refine run_skip ?_
            refine run_seq ?_
            refine run_block ?_
            refine run_region ?_
            refine ops_val (ex_move rfl) ?_
            refine ops_val (ex_move rfl) ?_
            refine ops_val (ex_nilCheck rfl) ?_
            refine ops_val (ex_load ty26 rfl (cell_to hcq H4 hbq)) ?_
            refine nO80 ?_
            refine ops_val (ex_move rfl) ?_
            obtain ⟨pa, hpa⟩ := hrd.some_ (by omega)
            subst hpa
            refine ops_val (ex_idx Tryz.underlying26 ty77 rfl rfl rfl hql rfl) ?_
            have hpb := hap (by omega) pa rfl
            have hMq := thend.to (hel q hql) H4 (fun _ h => h)
            refine ops_call (ex_call_bound gf41 rfl rfl) (pend_W gp g cap sp _ (pa.add (q * 2)) x[q] _ _ H4.here hP (thend.mono hMq fun _ h => h.2) ((elem_cl hrd hql hpb).to H4) (fun h => by cases h)) ?_
            rintro _ w5 ⟨g, cap, sp, hP2, Hd⟩
            have H5 := H4.all Hd
            refine ops_nil ?_
            refine nR80 ?_
            refine run_nil (blk_normal ?_)
            refine run_region ?_
            refine ops_val (ex_move rfl) ?_
            refine ops_val (ex_add rfl rfl (IntWalk.i64_in _ (by omega))) ?_
            refine ops_val (ex_assign rfl) ?_
            refine ops_nil ?_
            refine nR80 ?_
            refine run_nil (rnd_normal ?_)
            exact ⟨x.length - (q + 1), by omega, q + 1, _, g, cap, sp, rfl, (fs (fs (fs (fn (fn (fn (fs (fn (fn (fn (fn (fn (fn (fn (fn (fn (fn (fn (fn (fn (fn (fn (fn (fn (fn (fn (fn (fn (fn (fn (fn (fn (fn (fn (fn (fn (fn (fn (fn (fn (fn (fn (fn (fn (fn (fn (fn (fn (fn (fn (fn (fn (fn (fn (fn (fn (fn (fn (fn (fn (fn (fn (fn (fn (fn (fn (fn (fn (fn (fn (fn (fn (fn (fn (fn (fn (fn (fn (fn (fn f0)))))))))))))))))))))))))))))))))))))))))))))))))))))))))))))))))))))))))))))))), rfl, by omega, by rw [wl_succ hql, hst]; exact hP2, by rw [wl_succ hql, hst]; exact H5⟩
          · have hsl : sl = true := by simpa using hb45
            subst hsl
            refine run_exit ?_
            refine rnd_exit ?_
            refine blk_exit ?_
            refine run_ret ?_
            refine fin_ret0 rfl ?_
            have e := wl_stop (A := thend) false (x := x) (q := q) (st := st) (by rw [hst])
            rw [e, hst]
            exact ⟨g, cap, sp, hP, H4⟩
        · have hqm : q = x.length := by omega
          subst hqm
          refine ops_val (ex_move rfl) ?_
          refine nO80 ?_
          refine ops_no rfl ?_
          refine ops_no rfl ?_
          refine nO80 ?_
          refine ops_no rfl ?_
          refine ops_no rfl ?_
          refine nO80 ?_
          refine ops_no rfl ?_
          refine ops_val (ex_pick_f rfl rfl) ?_
          refine ops_nil ?_
          refine nR80 ?_
          refine run_cond_false rfl ?_
          refine run_exit ?_
          refine rnd_exit ?_
          refine blk_exit ?_
          refine run_ret ?_
          refine fin_ret0 rfl ?_
          rw [wl_all thend false] at hP H4
          exact ⟨g, cap, sp, hP, H4⟩
theorem plend_W : PenWL Tryz.prog 40 41 (Th.many thend false) := plend_w
set_option maxRecDepth 100000 in
set_option maxHeartbeats 4000000 in
theorem plend_r (gp gr : Nat) (gb : Option Nat) (cb : Nat) (sb : List Value) (b : List UInt8) (hcb : b.length ≤ cb) (hbl : b.length ≤ 65536) (go o i e : Nat) (U : TypeId) (cs : List Value) (w0 : World) (H0 : Hp w0 w0 (bl (pr gp gr gb cb sb b i e ++ [(some go, U, cs)])) (pr gp gr gb cb sb b i e ++ [(some go, U, cs)])) (hi : i ≤ b.length) (hat : At cs o (Th.many thend false).zs) (hfit : o + (Th.many thend false).sz ≤ cs.length) :
    Does Tryz.prog 40 #[.pointer (some ⟨gp, 0, none⟩), .pointer (some ⟨go, o, none⟩), .func (.func 41) [.pointer (some ⟨gp, 0, none⟩)].toArray #[]] w0 (fun _ w' => RdOut (pr gp gr gb cb sb b) (Th.many thend false) go o U cs b i e w0.heap.size w0 (bl (pr gp gr gb cb sb b i e ++ [(some go, U, cs)])) w') := by
  refine does_of Tryz.func40 Tryz.ntmps40 rfl ?_
  refine nR80 ?_
  have H := H0
  change o + 1 ≤ cs.length at hfit
  have hcq : cs[o]? = some (Value.slice none 0 0) := by have := hat 0 _ rfl; rwa [Nat.add_zero] at this
  have hrow : putAt cs o [Value.slice none 0 0] = cs := putAt_same hat (by simpa using hfit)
  refine run_seq ?_
  refine run_seq ?_
  refine run_region ?_
  refine ops_val (ex_move rfl) ?_
  have hk := pstop_r gp gr gb cb sb b i e _ (Hp.less (es := pr gp gr gb cb sb b i e) (R := [(some go, U, cs)]) H).here hcb hbl hi
  refine ops_call_val (ex_call gf63 rfl) hk ?_
  intro w1 Hd
  have H1 := Hp.front (R := [(some go, U, cs)]) H Hd
  refine ops_nil ?_
  refine nR80 ?_
  refine run_cond rfl (fun hb11 => ?_) (fun hb11 => ?_)
  · have hbe : e ≠ 0 := by simpa using hb11
    refine run_ret ?_
    refine fin_ret0 rfl ?_
    have hbd := (Th.many thend false).bad (b := b) (i := i) hbe
    unfold RdOut
    rw [hbd]
    refine ⟨[Value.slice none 0 0], rfl, rfl, by rw [hrow]; exact H1, fun h => absurd h hbe⟩
  · have hbe : e = 0 := by simpa using hb11
    refine run_skip ?_
    refine run_seq ?_
    refine run_seq ?_
    refine run_region ?_
    refine ops_val (ex_move rfl) ?_
    refine ops_val (ex_nilCheck rfl) ?_
    refine ops_val (ex_fieldAddr fl80_0 rfl) ?_
    refine ops_val (ex_load ty78 rfl (H1.cell (i := 0) rfl rfl)) ?_
    refine nO80 ?_
    refine ops_false (ex_eql_nil_ptr Tryz.underlying78 rfl) (by simp) ?_
    refine ops_nil ?_
    refine nR80 ?_
    refine run_cond_false rfl ?_
    refine run_skip ?_
    refine run_seq ?_
    refine run_region ?_
    refine ops_val (ex_move rfl) ?_
    refine ops_val (ex_nilCheck rfl) ?_
    refine ops_val (ex_fieldAddr fl80_0 rfl) ?_
    refine ops_val (ex_load ty78 rfl (H1.cell (i := 0) rfl rfl)) ?_
    refine nO80 ?_
    obtain ⟨⟨nn, ic, ec⟩, hcn⟩ : ∃ s, countStep b 1024 i e = s := ⟨_, rfl⟩
    have hcb2 := countStep_le (b := b) (most := 1024) (i := i) (e := e) hi
    have hic := hcb2.1
    have hn3 := hcb2.2.2.1
    rw [hcn] at hic hn3
    simp only at hic hn3
    have hnn : nn ≤ 1024 := by have : ((nn : Nat) : Int) ≤ max 1024 0 := hn3; omega
    have hmr : (Th.many thend false).rd b i e = rdN thend b nn ic ec := by
      show rdN thend b (countStep b 1024 i e).1 (countStep b 1024 i e).2.1 (countStep b 1024 i e).2.2 = _
      rw [hcn]
    have hk := count_rd gr (hd gb) cb b i e _ (rdr_of H1 (j := 1) (k := 2) rfl rfl (by decide) hcb (by omega) hi) 1024 (by decide) (by decide)
    rw [hcn] at hk
    refine ops_call_val (ex_call gf69 rfl) hk ?_
    intro w2 Hd
    have HN0 := (H1.call1 (i := 1) rfl Hd).pick [0, 4, 2, 3] (by decide)
    have H2 : Hp w0 w2 (bl (pr gp gr gb cb sb b i e ++ [(some go, U, cs)])) (pr gp gr gb cb sb b ic ec ++ [(some go, U, putAt cs o [Value.slice none 0 0])]) := by rw [hrow]; exact HN0
    refine ops_val (ex_assign rfl) ?_
    refine ops_nil ?_
    refine nR80 ?_
    refine run_seq ?_
    refine run_region ?_
    refine ops_val (ex_assign rfl) ?_
    refine ops_nil ?_
    refine nR80 ?_
    refine run_block ?_
    refine run_loop (fun n l w => ∃ (q : Nat) (y : Int) (i1 e1 : Nat) (xs : List thend.X) (uc spl : List Value) (gl : Option Nat) (capl : Nat), nn - q = n ∧ Fits [some (.pointer (some ⟨gp, 0, none⟩)), some (.pointer (some ⟨go, o, none⟩)), some (.func (.func 41) [.pointer (some ⟨gp, 0, none⟩)].toArray #[]), none, none, none, none, some (.int .i64 (nn : Int)), some (.int .i64 y), none, none, none, none, none, none, none, none, none, none, none, none, none, none, none, none, none, none, none, none, none, none, none, none, none, none, none, none, none, none, none, none, none, none, none, none, none, none, none, none, none, none, none, none, none, none, none, none, none, none, none, none, none, none, none, none, none, none, none, none, none, none, none, none, none, none, none, none, none, none, none] l ∧ y = q ∧ q ≤ nn ∧ xs.length = q ∧ rdN thend b nn ic ec = (xs ++ (rdN thend b (nn - q) i1 e1).1, (rdN thend b (nn - q) i1 e1).2) ∧ i1 ≤ b.length ∧ uc.length = q * 2 ∧ uc.all (·.oneCell') = true ∧ q ≤ capl ∧ capl * 2 ≤ (uc ++ spl).length ∧ (gl = none → capl = 0) ∧ Hp w0 w (bl (pr gp gr gb cb sb b i e ++ [(some go, U, cs)])) ((pr gp gr gb cb sb b i1 e1 ++ [(some go, U, putAt cs o [Value.slice (hd gl) q capl])]) ++ [(gl, 77, uc ++ spl)]) ∧ (e1 = 0 → ∀ j (hj : j < xs.length), thend.M w (Fr w w0.heap.size ((pr gp gr gb cb sb b i1 e1 ++ [(some go, U, putAt cs o [Value.slice (hd gl) q capl])]) ++ [(gl, 77, uc ++ spl)])) xs[j] ((uc.drop (j * 2)).take 2))) (nn) ?_ ?_
    · exact ⟨0, _, ic, ec, [], [], [], none, 0, rfl, (fs (fs (fs (fn (fn (fn (fn (fs (fs (fn (fn (fn (fn (fn (fn (fn (fn (fn (fn (fn (fn (fn (fn (fn (fn (fn (fn (fn (fn (fn (fn (fn (fn (fn (fn (fn (fn (fn (fn (fn (fn (fn (fn (fn (fn (fn (fn (fn (fn (fn (fn (fn (fn (fn (fn (fn (fn (fn (fn (fn (fn (fn (fn (fn (fn (fn (fn (fn (fn (fn (fn (fn (fn (fn (fn (fn (fn (fn (fn (fn f0)))))))))))))))))))))))))))))))))))))))))))))))))))))))))))))))))))))))))))))))), rfl, Nat.zero_le _, rfl, rfl, hic, rfl, rfl, Nat.le_refl _, Nat.zero_le _, fun _ => rfl, (H2.nil 77), fun _ j hj => by cases hj⟩
    · rintro n l w3 ⟨q, y, i1, e1, xs, uc, spl, gl, capl, rfl, hfit, rfl, hq, hxs, hrd, hi1, hul, huo, hqc, hcl, hgl, H3, hel⟩
      obtain ⟨j, rfl⟩ := hfit.open
      refine nR80 ?_
      clear hfit
      refine run_seq ?_
      refine run_seq ?_
      refine run_region ?_
      refine ops_val (ex_move rfl) ?_
      refine ops_val (ex_move rfl) ?_
      refine ops_test (ex_lss rfl rfl) (fun hp62 => ?_) (fun hp62 => ?_)
      · have hql : q < nn := by omega
        refine ops_val (ex_move rfl) ?_
        refine nO80 ?_
        refine ops_yes rfl ?_
        refine ops_val (ex_move rfl) ?_
        refine ops_yes rfl ?_
        have HZ : Hp w0 w3 (bl (pr gp gr gb cb sb b i e ++ [(some go, U, cs)])) (pr gp gr gb cb sb b i1 e1 ++ [(some go, U, putAt cs o [Value.slice (hd gl) q capl]), (gl, 77, uc ++ spl)]) := H3
        have hk := pstop_r gp gr gb cb sb b i1 e1 _ (Hp.less (es := pr gp gr gb cb sb b i1 e1) HZ).here hcb hbl hi1
        refine ops_call_val (ex_call gf63 rfl) hk ?_
        intro w4 Hd
        replace hel := fun h0 j hj => Fr.to (hel h0 j hj) (Hp.front (R := [(some go, U, putAt cs o [Value.slice (hd gl) q capl]), (gl, 77, uc ++ spl)]) HZ.here Hd)
        have H4 := Hp.front HZ Hd
        refine nO80 ?_
        refine ops_yes rfl ?_
        refine ops_val (ex_not rfl) ?_
        refine ops_val (ex_pick_t rfl rfl) ?_
        refine ops_nil ?_
        refine nR80 ?_
        refine run_cond rfl (fun hb67 => ?_) (fun hb67 => ?_)
        · have he1 : e1 = 0 := by simpa using hb67
          refine run_skip ?_
          refine run_seq ?_
          refine run_block ?_
          refine run_seq ?_
          refine run_region ?_
          have HB := H4
          replace H4 := HB.here
          refine ops_alloc ty77 H4 ?_
          intro w5 gx H5 hgx
          refine ops_nil ?_
          refine nR80 ?_
          refine run_seq ?_
          refine run_region ?_
          refine ops_val (ex_move rfl) ?_
          have HX : Hp _ w5 _ ((pr gp gr gb cb sb b i1 e1 ++ [(some gx, 77, [.int .i64 0, .int .i64 0])]) ++ [(some go, U, putAt cs o [Value.slice (hd gl) q capl]), (gl, 77, uc ++ spl)]) := H5.pick [0, 1, 2, 5, 3, 4] (by decide)
          obtain ⟨⟨xv, i2, e2⟩, hx⟩ : ∃ s, thend.rd b i1 e1 = s := ⟨_, rfl⟩
          have hi2 : i2 ≤ b.length := by have := thend.le (b := b) (e := e1) hi1; rw [hx] at this; exact this
          refine ops_call (ex_call_bound gf41 rfl rfl) (pend_R gp gr gb cb sb b hcb hbl gx 0 i1 e1 77 _ _ HX.less.here hi1 (At.self _) (Nat.le_refl _)) ?_
          rintro _ w6 ⟨us, hus, huno, Hd, hMx⟩
          rw [hx] at Hd hMx
          simp only at Hd hMx
          have hpu : putAt [.int .i64 0, .int .i64 0] 0 us = us := putAt_all hus
          rw [hpu] at Hd hMx
          have hnsz := Nat.le_trans HB.size HX.size
          have HC := HX.front Hd
          replace hMx := fun h0 => thend.mono (ok' := Fr w6 w0.heap.size ((pr gp gr gb cb sb b i2 e2 ++ [(some gx, 77, us)]) ++ [(some go, U, putAt cs o [Value.slice (hd gl) q capl]), (gl, 77, uc ++ spl)])) (hMx h0) (fun p hp => ⟨by have := hp.1; omega, fun hq => by
            rw [bl_append] at hq
            rcases List.mem_append.1 hq with hq | hq
            · exact hp.2.1 hq
            · have h1 := bl_lt HX (b := p) (by rw [bl_append]; exact List.mem_append_right _ hq)
              have := hp.1
              omega, hp.2.2⟩)
          replace hel := fun h0 j hj => Fr.to (hel h0 j hj) HC
          have H6 := HC.here
          refine ops_nil ?_
          refine nR80 ?_
          refine run_mixZ 8 [(true, 0), (true, 1), (true, 2), (true, 3), (true, 4), (false, 5), (false, 6), (true, 7), (false, 8)] H6 [0, 1, 2, 3, 4] mixed (by decide) (by kernel_rfl) ?_
          rintro w7 hw7
          have H7 := Hp.drew H6; rw [← hw7] at H7
          refine mixz_p rfl ?_
          refine mix1_val (fun wz hz => ex_move rfl) ?_
          refine mixz_p rfl ?_
          refine mix1_val (fun wz hz => ex_move rfl) ?_
          refine mixz_p rfl ?_
          refine mix1_val (fun wz hz => ex_nilCheck rfl) ?_
          refine mixz_p rfl ?_
          refine mix1_val (fun wz hz => ex_load ty26 rfl (hz.cell (i := 4) rfl (show (putAt cs o [Value.slice (hd gl) q capl])[o]? = some (Value.slice (hd gl) q capl) from by rw [putAt_get (by simpa using hfit), if_neg (by omega), if_pos (by simp)]; simp))) ?_
          refine nZ80 ?_
          refine mixz_p rfl ?_
          refine mix1_val (fun wz hz => ex_loadN ty77 rfl (vs := us) hus (hz.cells (i := 3) rfl)) ?_
          refine mixz_o rfl ?_
          refine ops_build1 Tryz.underlying26 ty77 H7 rfl rfl hus (by decide) ?_
          intro w8 gn H8 hgn
          refine ops_nil ?_
          refine ⟨fun hne => H8.pick [0, 1, 2, 3, 4] (by decide), ?_⟩
          refine nZ80 ?_
          refine mixz_o rfl ?_
          refine ops_append Tryz.underlying26 ty77 (by decide) H8 5 (g := gl) (xs := uc) (sp := spl) rfl rfl hul hcl hqc hgl rfl (H8.rd (i := 6) (o := some gn) (xs := us) (sp := []) (by rw [List.append_nil]; rfl) (by rw [hus, Nat.one_mul]; rfl) (by decide)) huno (by omega) (by omega) (by decide) ?_
          intro w9 gl2 capl2 spl2 H9 hcl2 hqc2 hgl2
          refine ops_nil ?_
          refine ⟨fun hne => H9.pick [0, 1, 2, 3, 4] (by decide), ?_⟩
          refine nZ80 ?_
          refine mixz_p rfl ?_
          refine mix1_val (fun wz hz => ex_nilCheck rfl) ?_
          refine mixz_o rfl ?_
          refine ops_store1 ty26 H9 4 rfl rfl rfl rfl (by rw [putAt_len (by simpa using hfit)]; omega) rfl ?_
          intro w10 HS0
          have hset2 : (putAt cs o [Value.slice (hd gl) q capl]).set o (Value.slice (hd gl2) (q + 1) capl2) = putAt cs o [Value.slice (hd gl2) (q + 1) capl2] := by
            apply List.ext_getElem?
            intro j
            rw [List.getElem?_set, putAt_len (by simpa using hfit), putAt_get (by simpa using hfit), putAt_get (by simpa using hfit)]
            by_cases hj : o = j
            · subst hj; rw [if_pos rfl, if_pos (by omega), if_neg (by omega), if_pos (by simp)]; simp
            · rw [if_neg hj]
              split
              · rfl
              · rw [if_neg (by simp; omega), if_neg (by simp; omega)]
          have H10 := HS0
          refine ops_nil ?_
          refine ⟨fun hne => absurd rfl hne, ?_⟩
          refine nZ80 ?_
          refine mixz_nil ?_
          refine nR80 ?_
          refine run_nil (blk_normal ?_)
          refine run_region ?_
          refine ops_val (ex_move rfl) ?_
          refine ops_val (ex_add rfl rfl (IntWalk.i64_in _ (by omega))) ?_
          refine ops_val (ex_assign rfl) ?_
          refine ops_nil ?_
          refine nR80 ?_
          refine run_nil (rnd_normal ?_)
          have h1 := H10.pick [0, 1, 2, 4, 5] (by decide)
          rw [hset2] at h1
          have HR := (show ∀ (wa wb : World) (SS : List Nat), Hp wa wb SS ((pr gp gr gb cb sb b i2 e2 ++ [(some go, U, putAt cs o [Value.slice (hd gl2) (q + 1) capl2])]) ++ [(gl2, 77, (uc ++ us) ++ spl2)]) → Hp wa wb SS ((pr gp gr gb cb sb b i2 e2 ++ [(some go, U, putAt cs o [Value.slice (hd gl2) (q + 1) capl2])]) ++ [(gl2, 77, (uc ++ us) ++ spl2)]) from fun _ _ _ h => h) _ _ _ h1
          refine ⟨nn - (q + 1), by omega, q + 1, _, i2, e2, xs ++ [xv], uc ++ us, spl2, gl2, capl2, rfl, (fs (fs (fs (fn (fn (fn (fn (fs (fs (fn (fn (fn (fn (fn (fn (fn (fn (fn (fn (fn (fn (fn (fn (fn (fn (fn (fn (fn (fn (fn (fn (fn (fn (fn (fn (fn (fn (fn (fn (fn (fn (fn (fn (fn (fn (fn (fn (fn (fn (fn (fn (fn (fn (fn (fn (fn (fn (fn (fn (fn (fn (fn (fn (fn (fn (fn (fn (fn (fn (fn (fn (fn (fn (fn (fn (fn (fn (fn (fn (fn f0)))))))))))))))))))))))))))))))))))))))))))))))))))))))))))))))))))))))))))))))), rfl, by omega, by simp [hxs], ?_, hi2, by rw [List.length_append, hul, hus]; show q * 2 + 2 = (q + 1) * 2; omega, by rw [List.all_append, huo, huno]; rfl, hqc2, hcl2, hgl2, (HB.all HC).all HR, ?_⟩
          · rw [hrd, rdN_step hql he1 hx, List.append_assoc]; rfl
          · intro h0 j hj
            simp only [List.length_append, List.length_cons, List.length_nil] at hj
            by_cases hjq : j < xs.length
            · rw [List.getElem_append_left hjq]
              have hd1 : ((uc ++ us).drop (j * 2)).take 2 = (uc.drop (j * 2)).take 2 := by
                have h1 : (j + 1) * 2 ≤ q * 2 := Nat.mul_le_mul_right _ (by omega)
                rw [List.drop_append_of_le_length (by omega), List.take_append_of_le_length (by rw [List.length_drop]; omega)]
              rw [hd1]
              exact Fr.to (hel he1 j hjq) HR
            · have hjj : j = xs.length := by omega
              subst hjj
              rw [List.getElem_append_right (Nat.le_refl _)]
              have hd2 : ((uc ++ us).drop (xs.length * 2)).take 2 = us := by
                rw [hxs, ← hul, List.drop_left]
                exact List.take_of_length_le (Nat.le_of_eq hus)
              simp only [Nat.sub_self, List.getElem_cons_zero]
              rw [hd2]
              exact Fr.to (hMx h0) HR
        · have he1 : e1 ≠ 0 := by simpa using hb67
          refine run_exit ?_
          refine rnd_exit ?_
          refine blk_exit ?_
          refine run_nil ?_
          refine fin_end0 rfl ?_
          have hrw : (Th.many thend false).rd b i e = (xs, i1, e1) := by rw [hmr, hrd]; first | (rw [rdN_bad _ _ _ he1]; simp) | (simp [rdN])
          unfold RdOut
          rw [hrw]
          have HF : Hp w0 w4 _ ((pr gp gr gb cb sb b i1 e1 ++ [(some go, U, putAt cs o [Value.slice (hd gl) q capl])]) ++ [(gl, 77, uc ++ spl)]) := H4
          refine ⟨[Value.slice (hd gl) q capl], rfl, rfl, HF.less, fun h0 => ⟨hd gl, capl, uc, by rw [hxs], ⟨by rw [hxs]; omega, fun _ => by decide⟩, by rw [hxs]; exact HF.rd (i := 4) (o := gl) (xs := uc) (sp := spl) rfl hul (by decide), fun _ p hp => ⟨place_new HF rfl (i := 0) rfl p hp, row_apart HF (i := 0) rfl p hp, HF.tw (i := 4) rfl p hp⟩, fun _ _ p hp => HF.tw (i := 4) rfl p hp, fun j hj => thend.mono (hel h0 j hj) (fun p hp => ⟨hp.1, fun hq => hp.2.1 (show p ∈ bl ((pr gp gr gb cb sb b i1 e1 ++ [(some go, U, putAt cs o [Value.slice (hd gl) q capl])]) ++ [(gl, 77, uc ++ spl)]) from bl_left hq), hp.2.2⟩)⟩⟩
      · have hqm : q = nn := by omega
        subst hqm
        refine ops_val (ex_move rfl) ?_
        refine nO80 ?_
        refine ops_no rfl ?_
        refine ops_no rfl ?_
        refine nO80 ?_
        refine ops_no rfl ?_
        refine ops_val (ex_pick_f rfl rfl) ?_
        refine ops_nil ?_
        refine nR80 ?_
        refine run_cond_false rfl ?_
        refine run_exit ?_
        refine rnd_exit ?_
        refine blk_exit ?_
        refine run_nil ?_
        refine fin_end0 rfl ?_
        have hrw : (Th.many thend false).rd b i e = (xs, i1, e1) := by rw [hmr, hrd]; first | (rw [rdN_bad _ _ _ he1]; simp) | (simp [rdN])
        unfold RdOut
        rw [hrw]
        have HF : Hp w0 w3 _ ((pr gp gr gb cb sb b i1 e1 ++ [(some go, U, putAt cs o [Value.slice (hd gl) q capl])]) ++ [(gl, 77, uc ++ spl)]) := H3
        refine ⟨[Value.slice (hd gl) q capl], rfl, rfl, HF.less, fun h0 => ⟨hd gl, capl, uc, by rw [hxs], ⟨by rw [hxs]; omega, fun _ => by decide⟩, by rw [hxs]; exact HF.rd (i := 4) (o := gl) (xs := uc) (sp := spl) rfl hul (by decide), fun _ p hp => ⟨place_new HF rfl (i := 0) rfl p hp, row_apart HF (i := 0) rfl p hp, HF.tw (i := 4) rfl p hp⟩, fun _ _ p hp => HF.tw (i := 4) rfl p hp, fun j hj => thend.mono (hel h0 j hj) (fun p hp => ⟨hp.1, fun hq => hp.2.1 (show p ∈ bl ((pr gp gr gb cb sb b i1 e1 ++ [(some go, U, putAt cs o [Value.slice (hd gl) q capl])]) ++ [(gl, 77, uc ++ spl)]) from bl_left hq), hp.2.2⟩)⟩⟩
theorem plend_R : PenRL Tryz.prog 40 41 (Th.many thend false) := plend_r
end Go.Proofs.YtoeobicpdeklaaaGreat
