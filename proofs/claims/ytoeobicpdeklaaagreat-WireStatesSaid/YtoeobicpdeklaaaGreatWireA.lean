/- Walks of layer 2, printed by wip/gen/codec.py. -/
import Derived.Test.YtoeobicpdeklaaaGreatNrm
import Derived.Test.YtoeobicpdeklaaaGreatTh
namespace Go.Proofs.YtoeobicpdeklaaaGreat
open Go Go.RowKit
set_option linter.unusedVariables false
attribute [local irreducible] Still Ops Does Cd
set_option maxRecDepth 100000 in
set_option maxHeartbeats 4000000 in
theorem pstop_w (gp : Nat) (g : Option Nat) (cap : Nat) (sp : List Value) (st : WS) (w0 : World) (H0 : Hp w0 w0 (bl (pw gp g cap sp st)) (pw gp g cap sp st)) :
    Does Tryz.prog 63 #[.pointer (some ⟨gp, 0, none⟩)] w0 (fun r w' => r = .bool st.long ∧ Hp w0 w' (bl (pw gp g cap sp st)) (pw gp g cap sp st)) := by
  refine does_of Tryz.func63 Tryz.ntmps63 rfl ?_
  refine nR31 ?_
  have H := H0
  refine run_seq ?_
  refine run_region ?_
  refine ops_val (ex_assign rfl) ?_
  refine ops_nil ?_
  refine nR31 ?_
  refine run_seq ?_
  refine run_seq ?_
  refine run_region ?_
  refine ops_val (ex_move rfl) ?_
  refine ops_val (ex_nilCheck rfl) ?_
  refine ops_val (ex_fieldAddr fl80_0 rfl) ?_
  refine ops_val (ex_load ty78 rfl (H.cell (i := 0) rfl rfl)) ?_
  refine nO31 ?_
  refine ops_true (ex_eql_nil_ptr Tryz.underlying78 rfl) (rfl) ?_
  refine ops_nil ?_
  refine nR31 ?_
  refine run_cond_true rfl ?_
  refine run_seq ?_
  refine run_region ?_
  refine ops_val (ex_move rfl) ?_
  refine ops_val (ex_nilCheck rfl) ?_
  refine ops_val (ex_fieldAddr fl80_2 rfl) ?_
  refine ops_val (ex_load ty4 rfl (H.cell (i := 0) rfl rfl)) ?_
  refine nO31 ?_
  refine ops_val (ex_assign rfl) ?_
  refine ops_nil ?_
  refine nR31 ?_
  refine run_ret ?_
  refine fin_ret1 rfl rfl ?_
  exact ⟨rfl, H⟩
set_option maxRecDepth 100000 in
set_option maxHeartbeats 4000000 in
theorem pput_w (gp : Nat) (g : Option Nat) (cap : Nat) (sp : List Value) (st : WS) (w0 : World) (H0 : Hp w0 w0 (bl (pw gp g cap sp st)) (pw gp g cap sp st)) (hP : POk 65536 g cap sp st) (A : Option Addr) (x : List UInt8) (c : Nat) (hr : Rd w0 A x.length 1 (u8s x)) (ha : ∀ p, A = some p → p.block ∉ bl (pw gp g cap sp st)) (hx : x.length ≤ 1000000000) :
    Does Tryz.prog 64 #[.pointer (some ⟨gp, 0, none⟩), .slice A x.length c] w0 (fun r w' => ∃ g1 cap1 sp1, POk 65536 g1 cap1 sp1 (wPut x st) ∧ Hp w0 w' (bl (pw gp g cap sp st)) (pw gp g1 cap1 sp1 (wPut x st))) := by
  refine does_of Tryz.func64 Tryz.ntmps64 rfl ?_
  refine nR31 ?_
  have H := H0
  obtain ⟨sout, slong⟩ := st
  have hmost := hP.most
  simp only at hmost
  refine run_seq ?_
  refine run_seq ?_
  cases slong
  · skip
    refine run_region ?_
    refine ops_val (ex_move rfl) ?_
    refine ops_val (ex_nilCheck rfl) ?_
    refine ops_val (ex_fieldAddr fl80_2 rfl) ?_
    refine ops_val (ex_load ty4 rfl (H.cell (i := 0) rfl rfl)) ?_
    refine nO31 ?_
    refine ops_val (ex_move rfl) ?_
    refine ops_yes rfl ?_
    refine ops_val (ex_move rfl) ?_
    refine nO31 ?_
    refine ops_yes rfl ?_
    refine ops_val (ex_len_slice Tryz.underlying29 rfl) ?_
    refine ops_yes rfl ?_
    refine ops_val (ex_move rfl) ?_
    refine nO31 ?_
    refine ops_yes rfl ?_
    refine ops_val (ex_nilCheck rfl) ?_
    refine ops_yes rfl ?_
    refine ops_val (ex_fieldAddr fl80_1 rfl) ?_
    refine nO31 ?_
    refine ops_yes rfl ?_
    refine ops_val (ex_load ty29 rfl (H.cell (i := 0) rfl rfl)) ?_
    refine ops_yes rfl ?_
    refine ops_val (ex_len_slice Tryz.underlying29 rfl) ?_
    refine nO31 ?_
    refine ops_yes rfl ?_
    refine ops_val (ex_sub rfl rfl (IntWalk.i64_in _ (by dsimp only; omega))) ?_
    refine ops_yes rfl ?_
    refine ops_test (ex_gtr rfl rfl) (fun hp17 => ?_) (fun hp17 => ?_)
    · dsimp only at hp17
      refine ops_val (ex_pick_f rfl rfl) ?_
      refine ops_nil ?_
      refine nR31 ?_
      refine run_cond_true rfl ?_
      refine run_seq ?_
      refine run_region ?_
      refine ops_val (ex_move rfl) ?_
      refine ops_val (ex_nilCheck rfl) ?_
      refine ops_val (ex_fieldAddr fl80_2 rfl) ?_
      refine ops_store1 ty4 H 0 rfl rfl rfl rfl (by first | decide | simp) rfl ?_
      intro w1 H1
      refine ops_nil ?_
      refine nR31 ?_
      refine run_ret ?_
      refine fin_ret0 rfl ?_
      have hw : wPut x ⟨sout, false⟩ = ⟨sout, true⟩ := if_pos (.inr (by show 65536 < sout.length + x.length; omega))
      rw [hw]
      exact ⟨g, cap, sp, ⟨hP.1, hP.2, hP.3, hP.4⟩, H1⟩
    · dsimp only at hp17
      refine ops_val (ex_pick_f rfl rfl) ?_
      refine ops_nil ?_
      refine nR31 ?_
      refine run_cond_false rfl ?_
      refine run_skip ?_
      refine run_region ?_
      refine ops_val (ex_move rfl) ?_
      refine ops_val (ex_move rfl) ?_
      refine ops_val (ex_nilCheck rfl) ?_
      refine ops_val (ex_fieldAddr fl80_1 rfl) ?_
      refine nO31 ?_
      refine ops_val (ex_load ty29 rfl (H.cell (i := 0) rfl rfl)) ?_
      refine ops_val (ex_move rfl) ?_
      refine ops_app8 Tryz.underlying29 ty5 H 1 (L := sout) (M := x) (g := g) (sp := sp) rfl rfl hP.room hP.le hP.nil rfl (hr.to H ha) (by have := hP.most; simp only at this; omega) ?_
      intro w1 g3 cap3 sp3 H1 hmc3 hcap3 hg3
      refine ops_val (ex_nilCheck rfl) ?_
      refine nO31 ?_
      refine ops_val (ex_fieldAddr fl80_1 rfl) ?_
      refine ops_store1 ty29 H1 0 rfl rfl rfl rfl (by first | decide | simp) rfl ?_
      intro w2 H2
      refine ops_nil ?_
      refine nR31 ?_
      refine run_nil ?_
      refine fin_end0 rfl ?_
      have hw : wPut x ⟨sout, false⟩ = ⟨sout ++ x, false⟩ := if_neg (by rintro (h | h); cases h; have : 65536 < sout.length + x.length := h; omega)
      rw [hw]
      exact ⟨g3, cap3, sp3, ⟨hmc3, hcap3, hg3, by show (sout ++ x).length ≤ _; rw [List.length_append]; omega⟩, H2⟩
  · skip
    refine run_region ?_
    refine ops_val (ex_move rfl) ?_
    refine ops_val (ex_nilCheck rfl) ?_
    refine ops_val (ex_fieldAddr fl80_2 rfl) ?_
    refine ops_val (ex_load ty4 rfl (H.cell (i := 0) rfl rfl)) ?_
    refine nO31 ?_
    refine ops_val (ex_move rfl) ?_
    refine ops_no rfl ?_
    refine nO31 ?_
    refine ops_no rfl ?_
    refine ops_no rfl ?_
    refine nO31 ?_
    refine ops_no rfl ?_
    refine ops_no rfl ?_
    refine nO31 ?_
    refine ops_no rfl ?_
    refine ops_no rfl ?_
    refine nO31 ?_
    refine ops_no rfl ?_
    refine ops_no rfl ?_
    refine ops_val (ex_pick_t rfl rfl) ?_
    refine ops_nil ?_
    refine nR31 ?_
    refine run_cond_true rfl ?_
    refine run_seq ?_
    refine run_region ?_
    refine ops_val (ex_move rfl) ?_
    refine ops_val (ex_nilCheck rfl) ?_
    refine ops_val (ex_fieldAddr fl80_2 rfl) ?_
    refine ops_store1 ty4 H 0 rfl rfl rfl rfl (by first | decide | simp) rfl ?_
    intro w1 H1
    refine ops_nil ?_
    refine nR31 ?_
    refine run_ret ?_
    refine fin_ret0 rfl ?_
    have hw : wPut x ⟨sout, true⟩ = ⟨sout, true⟩ := if_pos (.inl rfl)
    rw [hw]
    exact ⟨g, cap, sp, hP, H1⟩
set_option maxRecDepth 100000 in
set_option maxHeartbeats 4000000 in
theorem pint_w (gp : Nat) (g0 : Option Nat) (cap0 : Nat) (sp0 : List Value) (st : WS) (a : Addr) (o m c : Nat) (fd : List Fv) (vs : List Value) (w0 : World) (H0 : Hp w0 w0 (bl (pw gp g0 cap0 sp0 st)) (pw gp g0 cap0 sp0 st)) (hP : POk 65536 g0 cap0 sp0 st) (A : Option Addr) (hm : m ≤ 1000000) (hk : fd.map Fv.kd = List.replicate m .int) (hF : FCs w0 (pw gp g0 cap0 sp0 st) fd vs) (hC : Cl w0 (bl (pw gp g0 cap0 sp0 st)) (a.add o) vs) (hA : Rd w0 A m 1 (ptrsA a o m)) (hS : ∀ p, A = some p → p.block ∉ bl (pw gp g0 cap0 sp0 st)) :
    Does Tryz.prog 29 #[.pointer (some ⟨gp, 0, none⟩), .slice A m c] w0 (fun _ w' => PwOut gp (wAll fd st) w0 (bl (pw gp g0 cap0 sp0 st)) w') := by
  refine does_of Tryz.func29 Tryz.ntmps29 rfl ?_
  refine nR35 ?_
  have H := H0
  have hlen : fd.length = m := by have := congrArg List.length hk; simpa using this
  refine run_seq ?_
  refine run_region ?_
  refine ops_val (ex_move rfl) ?_
  refine ops_val (ex_len_slice Tryz.underlying130 rfl) ?_
  refine ops_val (ex_move rfl) ?_
  refine ops_nil ?_
  refine nR35 ?_
  refine run_block ?_
  refine run_loop (fun n l w => ∃ (q : Nat) (y : Int) (g : Option Nat) (cap : Nat) (sp : List Value), m - q = n ∧ Fits [some (.pointer (some ⟨gp, 0, none⟩)), none, none, none, none, none, some (.slice A m c), some (.int .i64 m), some (.int .i64 y), none, none, none, none, none, none, none, none, none, none, none, none, none, none, none, none, none, none, none, none, none, none, none, none, none, none] l ∧ y = q ∧ q ≤ m ∧ POk 65536 g cap sp (wAll (fd.take q) st) ∧ Hp w0 w (bl (pw gp g0 cap0 sp0 st)) (pw gp g cap sp (wAll (fd.take q) st))) (m) ?_ ?_
  · exact ⟨0, _, g0, cap0, sp0, rfl, (fs (fn (fn (fn (fn (fn (fs (fs (fs (fn (fn (fn (fn (fn (fn (fn (fn (fn (fn (fn (fn (fn (fn (fn (fn (fn (fn (fn (fn (fn (fn (fn (fn (fn (fn f0))))))))))))))))))))))))))))))))))), rfl, Nat.zero_le _, hP, H⟩
  · rintro n l w1 ⟨q, y, g, cap, sp, rfl, hfit, rfl, hq, hP, H1⟩
    obtain ⟨j, rfl⟩ := hfit.open
    refine nR35 ?_
    clear hfit
    refine run_seq ?_
    refine run_region ?_
    refine ops_test (ex_lss rfl rfl) (fun hp9 => ?_) (fun hp9 => ?_)
    · have hql : q < m := by omega
      have hqf : q < fd.length := by omega
      obtain ⟨v, hv1, hv2⟩ := hF.each q hqf
      have hsn := wAll_snoc hqf st
      have hcq : w0.cell? (a.add (o + q)) = some v := by have := hC.cell q v hv1; rwa [add_add] at this
      have hbq : (a.add (o + q)).block ∉ bl (pw gp g0 cap0 sp0 st) := by rw [add_block]; have := hC.apart (by have := hF.len; omega); rwa [add_block] at this
      obtain ⟨pa, hpa⟩ := hA.some_ (by omega)
      subst hpa
      have hkd : fd[q].kd = .int := by
        have := congrArg (fun l => l[q]?) hk
        simpa [hqf, hql] using this
      obtain ⟨nn, hfq⟩ : ∃ x, fd[q] = .int x := by
        generalize fd[q] = fq at hkd
        cases fq <;> first | exact ⟨_, rfl⟩ | cases hkd
      rw [hfq] at hv2 hsn
      obtain ⟨rfl, hn1, hn2⟩ := hv2
      obtain ⟨st1, hst⟩ : ∃ x, wAll (fd.take q) st = x := ⟨_, rfl⟩
      rw [hst] at hsn H1 hP
      refine ops_nil ?_
      refine nR35 ?_
      refine run_seq ?_
      refine run_cond_true rfl ?_
      refine run_skip ?_
      refine run_seq ?_
      refine run_block ?_
      refine run_seq ?_
      refine run_region ?_
      refine ops_val (ex_idx Tryz.underlying130 ty82 rfl rfl rfl hql (Nat.mul_one _)) ?_
      refine ops_val (ex_load ty82 rfl ((hA.to H1 hS).cells pa rfl q _ (ptrsA_get hql))) ?_
      refine ops_val (ex_assign rfl) ?_
      refine ops_nil ?_
      refine nR35 ?_
      refine run_block ?_
      refine run_seq ?_
      refine run_region ?_
      refine ops_val (ex_move rfl) ?_
      have hk := pstop_w gp g cap sp st1 _ H1.here
      refine ops_call_val (ex_call gf63 rfl) hk ?_
      intro w2 Hd
      have H2 := H1.all Hd
      refine ops_val (ex_assign rfl) ?_
      refine ops_nil ?_
      refine nR35 ?_
      refine run_cond rfl (fun hb19 => ?_) (fun hb19 => ?_)
      · rw [wFld_long hb19] at hsn
        refine run_skip ?_
        refine run_nil (blk_normal ?_)
        refine run_nil (blk_normal ?_)
        refine run_region ?_
        refine ops_val (ex_add rfl rfl (IntWalk.i64_in _ (by omega))) ?_
        refine ops_val (ex_move rfl) ?_
        refine ops_nil ?_
        refine nR35 ?_
        refine run_nil (rnd_normal ?_)
        exact ⟨m - (q + 1), by omega, q + 1, _, g, cap, sp, rfl, (fs (fn (fn (fn (fn (fn (fs (fs (fs (fn (fn (fn (fn (fn (fn (fn (fn (fn (fn (fn (fn (fn (fn (fn (fn (fn (fn (fn (fn (fn (fn (fn (fn (fn (fn f0))))))))))))))))))))))))))))))))))), rfl, by omega, by rw [hsn]; exact hP, by rw [hsn]; exact H2⟩
      · rw [wFld_put hb19 rfl] at hsn
        refine run_seq ?_
        refine run_region ?_
        refine ops_val (ex_move rfl) ?_
        refine ops_val (ex_nilCheck rfl) ?_
        refine ops_val (ex_fieldAddr fl80_0 rfl) ?_
        refine ops_val (ex_load ty78 rfl (H2.cell (i := 0) rfl rfl)) ?_
        refine nO35 ?_
        refine ops_true (ex_eql_nil_ptr Tryz.underlying78 rfl) (rfl) ?_
        refine ops_val (ex_assign rfl) ?_
        refine ops_nil ?_
        refine nR35 ?_
        refine run_cond_true rfl ?_
        refine run_region ?_
        refine ops_val (ex_move rfl) ?_
        refine ops_val (ex_move rfl) ?_
        refine ops_val (ex_nilCheck rfl) ?_
        refine ops_val (ex_load ty3 rfl (cell_to hcq H2 hbq)) ?_
        refine nO35 ?_
        have hxl : (encInt nn).length ≤ 1000000000 := by have := encF_len (f := .int nn) ⟨hn1, hn2⟩ rfl; exact Nat.le_trans this (by decide)
        refine ops_call_own (ex_call gf65 rfl) (int_any nn _ hn1 hn2) ?_
        intro w3 g1 c1 sp1 hm1 hc1 hg1 Hd
        have H3 := H2.call0 Hd
        have HQ : Hp w0 w3 _ (pw gp g cap sp st1 ++ [(g1, 5, u8s (encInt nn) ++ sp1)]) := H3
        have hk := pput_w gp g cap sp st1 _ (HQ.less (es := pw gp g cap sp st1) (R := [(g1, 5, u8s (encInt nn) ++ sp1)])).here hP (hd g1) (encInt nn) c1 (HQ.rd (i := 2) (o := g1) (xs := u8s (encInt nn)) (sp := sp1) rfl (u8s_length1 _) (by decide)) (row_apart HQ (i := 0) rfl) hxl
        refine ops_call (ex_call gf64 rfl) hk ?_
        rintro _ w4 ⟨g, cap, sp, hP, Hd⟩
        have H4 := Hp.less (es := pw gp g cap sp _) (R := [(g1, 5, u8s (encInt nn) ++ sp1)]) (HQ.front Hd)
        refine ops_nil ?_
        refine nR35 ?_
        refine run_nil (blk_normal ?_)
        refine run_nil (blk_normal ?_)
        refine run_region ?_
        refine ops_val (ex_add rfl rfl (IntWalk.i64_in _ (by omega))) ?_
        refine ops_val (ex_move rfl) ?_
        refine ops_nil ?_
        refine nR35 ?_
        refine run_nil (rnd_normal ?_)
        exact ⟨m - (q + 1), by omega, q + 1, _, g, cap, sp, rfl, (fs (fn (fn (fn (fn (fn (fs (fs (fs (fn (fn (fn (fn (fn (fn (fn (fn (fn (fn (fn (fn (fn (fn (fn (fn (fn (fn (fn (fn (fn (fn (fn (fn (fn (fn f0))))))))))))))))))))))))))))))))))), rfl, by omega, by rw [hsn]; exact hP, by rw [hsn]; exact H4⟩
    · have hqm : q = m := by omega
      subst hqm
      rw [List.take_of_length_le (by omega)] at H1 hP
      refine ops_nil ?_
      refine nR35 ?_
      refine run_seq ?_
      refine run_cond_false rfl ?_
      refine run_exit ?_
      refine rnd_exit ?_
      refine blk_exit ?_
      refine run_nil ?_
      refine fin_end0 rfl ?_
      exact ⟨g, cap, sp, hP, H1⟩
theorem pint_W : PenWs Tryz.prog 29 .int := fun gp g cap sp st a o m c x vs w0 A hm H0 hP hM hC hA hS => pint_w gp g cap sp st a o m c x vs w0 H0 hP A hm hM.1 hM.2 hC hA hS
set_option maxRecDepth 100000 in
set_option maxHeartbeats 4000000 in
theorem pflag_w (gp : Nat) (g0 : Option Nat) (cap0 : Nat) (sp0 : List Value) (st : WS) (a : Addr) (fd : List Fv) (vs : List Value) (w0 : World) (H0 : Hp w0 w0 (bl (pw gp g0 cap0 sp0 st)) (pw gp g0 cap0 sp0 st)) (hP : POk 65536 g0 cap0 sp0 st) (hk : fd.map Fv.kd = [.flag]) (hF : FCs w0 (pw gp g0 cap0 sp0 st) fd vs) (hC : Cl w0 (bl (pw gp g0 cap0 sp0 st)) a vs) :
    Does Tryz.prog 30 #[.pointer (some ⟨gp, 0, none⟩), .pointer (some a)] w0 (fun _ w' => PwOut gp (wAll fd st) w0 (bl (pw gp g0 cap0 sp0 st)) w') := by
  refine does_of Tryz.func30 Tryz.ntmps30 rfl ?_
  refine nR37 ?_
  have H := H0
  obtain ⟨x, rfl⟩ := one_flag hk
  obtain ⟨v, rfl, hv2⟩ := hF.head
  have hcq : w0.cell? a = some v := by have := hC.cell 0 v rfl; rwa [Addr.add_zero'] at this
  have hbq := hC.apart (by simp)
  obtain rfl : v = .bool x := hv2
  refine run_block ?_
  refine run_seq ?_
  refine run_region ?_
  refine ops_val (ex_move rfl) ?_
  have hk := pstop_w gp g0 cap0 sp0 st _ H.here
  refine ops_call_val (ex_call gf63 rfl) hk ?_
  intro w1 Hd
  have H1 := H.all Hd
  refine ops_val (ex_assign rfl) ?_
  refine ops_nil ?_
  refine nR37 ?_
  refine run_cond rfl (fun hb11 => ?_) (fun hb11 => ?_)
  · skip
    refine run_skip ?_
    refine run_nil (blk_normal ?_)
    refine run_nil ?_
    refine fin_end0 rfl ?_
    rw [wAll_one, wFld_long hb11]
    exact ⟨g0, cap0, sp0, hP, H1⟩
  · skip
    refine run_seq ?_
    refine run_region ?_
    refine ops_val (ex_move rfl) ?_
    refine ops_val (ex_nilCheck rfl) ?_
    refine ops_val (ex_fieldAddr fl80_0 rfl) ?_
    refine ops_val (ex_load ty78 rfl (H1.cell (i := 0) rfl rfl)) ?_
    refine nO37 ?_
    refine ops_true (ex_eql_nil_ptr Tryz.underlying78 rfl) (rfl) ?_
    refine ops_val (ex_move rfl) ?_
    refine nO37 ?_
    refine ops_yes rfl ?_
    refine ops_val (ex_move rfl) ?_
    refine ops_yes rfl ?_
    refine ops_val (ex_nilCheck rfl) ?_
    refine nO37 ?_
    refine ops_yes rfl ?_
    refine ops_val (ex_load ty4 rfl (cell_to hcq H1 hbq)) ?_
    refine ops_val (ex_pick_t rfl rfl) ?_
    refine ops_val (ex_assign rfl) ?_
    refine ops_nil ?_
    refine nR37 ?_
    refine run_cond rfl (fun hb14 => ?_) (fun hb14 => ?_)
    · skip
      refine run_region ?_
      refine ops_val (ex_move rfl) ?_
      have hxl : ([1] : List UInt8).length ≤ 1000000000 := by decide
      refine ops_buildSlice Tryz.underlying29 ty5 H1 (cs := [.int .u8 1]) rfl (by decide) rfl ?_
      intro w2 gb H2 hgb
      have HQ : Hp w0 w2 _ (pw gp g0 cap0 sp0 st ++ [((some gb), 5, u8s [1] ++ [])]) := H2
      have hk := pput_w gp g0 cap0 sp0 st _ (HQ.less (es := pw gp g0 cap0 sp0 st) (R := [((some gb), 5, u8s [1] ++ [])])).here hP (hd (some gb)) [1] 1 (HQ.rd (i := 2) (o := (some gb)) (xs := u8s [1]) (sp := []) rfl (u8s_length1 _) (by decide)) (row_apart HQ (i := 0) rfl) hxl
      refine ops_call (ex_call gf64 rfl) hk ?_
      rintro _ w3 ⟨g, cap, sp, hP, Hd⟩
      have H3 := Hp.less (es := pw gp g cap sp _) (R := [((some gb), 5, u8s [1] ++ [])]) (HQ.front Hd)
      refine ops_nil ?_
      refine nR37 ?_
      refine run_nil (blk_normal ?_)
      refine run_nil ?_
      refine fin_end0 rfl ?_
      subst hb14
      rw [wAll_one, wFld_put hb11 rfl]
      exact ⟨g, cap, sp, hP, H3⟩
    · skip
      refine run_seq ?_
      refine run_region ?_
      refine ops_val (ex_move rfl) ?_
      refine ops_val (ex_nilCheck rfl) ?_
      refine ops_val (ex_fieldAddr fl80_0 rfl) ?_
      refine ops_val (ex_load ty78 rfl (H1.cell (i := 0) rfl rfl)) ?_
      refine nO37 ?_
      refine ops_true (ex_eql_nil_ptr Tryz.underlying78 rfl) (rfl) ?_
      refine ops_val (ex_assign rfl) ?_
      refine ops_nil ?_
      refine nR37 ?_
      refine run_cond_true rfl ?_
      refine run_region ?_
      refine ops_val (ex_move rfl) ?_
      have hxl : ([0] : List UInt8).length ≤ 1000000000 := by decide
      refine ops_buildSlice Tryz.underlying29 ty5 H1 (cs := [.int .u8 0]) rfl (by decide) rfl ?_
      intro w2 gb H2 hgb
      have HQ : Hp w0 w2 _ (pw gp g0 cap0 sp0 st ++ [((some gb), 5, u8s [0] ++ [])]) := H2
      have hk := pput_w gp g0 cap0 sp0 st _ (HQ.less (es := pw gp g0 cap0 sp0 st) (R := [((some gb), 5, u8s [0] ++ [])])).here hP (hd (some gb)) [0] 1 (HQ.rd (i := 2) (o := (some gb)) (xs := u8s [0]) (sp := []) rfl (u8s_length1 _) (by decide)) (row_apart HQ (i := 0) rfl) hxl
      refine ops_call (ex_call gf64 rfl) hk ?_
      rintro _ w3 ⟨g, cap, sp, hP, Hd⟩
      have H3 := Hp.less (es := pw gp g cap sp _) (R := [((some gb), 5, u8s [0] ++ [])]) (HQ.front Hd)
      refine ops_nil ?_
      refine nR37 ?_
      refine run_nil (blk_normal ?_)
      refine run_nil ?_
      refine fin_end0 rfl ?_
      subst hb14
      rw [wAll_one, wFld_put hb11 rfl]
      exact ⟨g, cap, sp, hP, H3⟩
theorem pflag_W : PenW Tryz.prog 30 (Th.flat [.flag]) false := fun gp g cap sp st a x vs w0 H0 hP hM hC _ => pflag_w gp g cap sp st a x vs w0 H0 hP hM.1 hM.2 hC
set_option maxRecDepth 100000 in
set_option maxHeartbeats 4000000 in
theorem pbytes_w (gp : Nat) (g0 : Option Nat) (cap0 : Nat) (sp0 : List Value) (st : WS) (a : Addr) (fd : List Fv) (vs : List Value) (w0 : World) (H0 : Hp w0 w0 (bl (pw gp g0 cap0 sp0 st)) (pw gp g0 cap0 sp0 st)) (hP : POk 65536 g0 cap0 sp0 st) (hk : fd.map Fv.kd = [.bytes]) (hF : FCs w0 (pw gp g0 cap0 sp0 st) fd vs) (hC : Cl w0 (bl (pw gp g0 cap0 sp0 st)) a vs) :
    Does Tryz.prog 43 #[.pointer (some ⟨gp, 0, none⟩), .pointer (some a)] w0 (fun _ w' => PwOut gp (wAll fd st) w0 (bl (pw gp g0 cap0 sp0 st)) w') := by
  refine does_of Tryz.func43 Tryz.ntmps43 rfl ?_
  refine nR35 ?_
  have H := H0
  obtain ⟨x, rfl⟩ := one_bytes hk
  obtain ⟨v, rfl, hv2⟩ := hF.head
  have hcq : w0.cell? a = some v := by have := hC.cell 0 v rfl; rwa [Addr.add_zero'] at this
  have hbq := hC.apart (by simp)
  obtain ⟨B, c, hve, hrd, hap⟩ := hv2
  subst hve
  refine run_block ?_
  refine run_seq ?_
  refine run_region ?_
  refine ops_val (ex_move rfl) ?_
  have hk := pstop_w gp g0 cap0 sp0 st _ H.here
  refine ops_call_val (ex_call gf63 rfl) hk ?_
  intro w1 Hd
  have H1 := H.all Hd
  refine ops_val (ex_assign rfl) ?_
  refine ops_nil ?_
  refine nR35 ?_
  refine run_cond rfl (fun hb10 => ?_) (fun hb10 => ?_)
  · skip
    refine run_skip ?_
    refine run_nil (blk_normal ?_)
    refine run_nil ?_
    refine fin_end0 rfl ?_
    rw [wAll_one, wFld_long hb10]
    exact ⟨g0, cap0, sp0, hP, H1⟩
  · skip
    refine run_seq ?_
    refine run_region ?_
    refine ops_val (ex_move rfl) ?_
    refine ops_val (ex_nilCheck rfl) ?_
    refine ops_val (ex_fieldAddr fl80_0 rfl) ?_
    refine ops_val (ex_load ty78 rfl (H1.cell (i := 0) rfl rfl)) ?_
    refine nO35 ?_
    refine ops_false (ex_neq_nil_ptr Tryz.underlying78 rfl) (by simp) ?_
    refine ops_val (ex_assign rfl) ?_
    refine ops_nil ?_
    refine nR35 ?_
    refine run_cond_false rfl ?_
    refine run_seq ?_
    refine run_region ?_
    refine ops_val (ex_move rfl) ?_
    refine ops_val (ex_nilCheck rfl) ?_
    refine ops_val (ex_load ty29 rfl (cell_to hcq H1 hbq)) ?_
    refine ops_val (ex_len_slice Tryz.underlying29 rfl) ?_
    refine nO35 ?_
    refine ops_test (ex_gtr rfl rfl) (fun hp31 => ?_) (fun hp31 => ?_)
    · skip
      refine ops_val (ex_assign rfl) ?_
      refine ops_nil ?_
      refine nR35 ?_
      refine run_cond_true rfl ?_
      refine run_region ?_
      refine ops_val (ex_move rfl) ?_
      refine ops_val (ex_nilCheck rfl) ?_
      refine ops_val (ex_fieldAddr fl80_2 rfl) ?_
      refine ops_store1 ty4 H1 0 rfl rfl rfl rfl (by first | decide | simp) rfl ?_
      intro w2 H2
      refine ops_nil ?_
      refine nR35 ?_
      refine run_nil (blk_normal ?_)
      refine run_nil ?_
      refine fin_end0 rfl ?_
      rw [wAll_one, wFld_too hb10 (by simp [tooLong]; omega)]
      exact ⟨g0, cap0, sp0, ⟨hP.1, hP.2, hP.3, hP.4⟩, H2⟩
    · skip
      refine ops_val (ex_assign rfl) ?_
      refine ops_nil ?_
      refine nR35 ?_
      refine run_cond_false rfl ?_
      refine run_region ?_
      refine ops_val (ex_move rfl) ?_
      refine ops_val (ex_move rfl) ?_
      refine ops_val (ex_nilCheck rfl) ?_
      refine ops_val (ex_load ty29 rfl (cell_to hcq H1 hbq)) ?_
      refine nO35 ?_
      have hxl : (encText x).length ≤ 1000000000 := by have := encF_len (f := .bytes x) trivial (by simp [tooLong]; omega); exact Nat.le_trans this (by decide)
      refine ops_call_own (ex_call gf75 rfl) (text_any B x c _ (hrd.fc H1 hap) (by omega)) ?_
      intro w2 g1 c1 sp1 hm1 hc1 hg1 Hd
      have H2 := H1.call0 Hd
      have HQ : Hp w0 w2 _ (pw gp g0 cap0 sp0 st ++ [(g1, 5, u8s (encText x) ++ sp1)]) := H2
      have hk := pput_w gp g0 cap0 sp0 st _ (HQ.less (es := pw gp g0 cap0 sp0 st) (R := [(g1, 5, u8s (encText x) ++ sp1)])).here hP (hd g1) (encText x) c1 (HQ.rd (i := 2) (o := g1) (xs := u8s (encText x)) (sp := sp1) rfl (u8s_length1 _) (by decide)) (row_apart HQ (i := 0) rfl) hxl
      refine ops_call (ex_call gf64 rfl) hk ?_
      rintro _ w3 ⟨g, cap, sp, hP, Hd⟩
      have H3 := Hp.less (es := pw gp g cap sp _) (R := [(g1, 5, u8s (encText x) ++ sp1)]) (HQ.front Hd)
      refine ops_nil ?_
      refine nR35 ?_
      refine run_nil (blk_normal ?_)
      refine run_nil ?_
      refine fin_end0 rfl ?_
      rw [wAll_one, wFld_put hb10 (by simp [tooLong]; omega)]
      exact ⟨g, cap, sp, hP, H3⟩
theorem pbytes_W : PenW Tryz.prog 43 (Th.flat [.bytes]) false := fun gp g cap sp st a x vs w0 H0 hP hM hC _ => pbytes_w gp g cap sp st a x vs w0 H0 hP hM.1 hM.2 hC
set_option maxRecDepth 100000 in
set_option maxHeartbeats 4000000 in
theorem ptext_w (gp : Nat) (g0 : Option Nat) (cap0 : Nat) (sp0 : List Value) (st : WS) (a : Addr) (o m c : Nat) (fd : List Fv) (vs : List Value) (w0 : World) (H0 : Hp w0 w0 (bl (pw gp g0 cap0 sp0 st)) (pw gp g0 cap0 sp0 st)) (hP : POk 65536 g0 cap0 sp0 st) (A : Option Addr) (hm : m ≤ 1000000) (hk : fd.map Fv.kd = List.replicate m .text) (hF : FCs w0 (pw gp g0 cap0 sp0 st) fd vs) (hC : Cl w0 (bl (pw gp g0 cap0 sp0 st)) (a.add o) vs) (hA : Rd w0 A m 1 (ptrsA a o m)) (hS : ∀ p, A = some p → p.block ∉ bl (pw gp g0 cap0 sp0 st)) :
    Does Tryz.prog 31 #[.pointer (some ⟨gp, 0, none⟩), .slice A m c] w0 (fun _ w' => PwOut gp (wAll fd st) w0 (bl (pw gp g0 cap0 sp0 st)) w') := by
  refine does_of Tryz.func31 Tryz.ntmps31 rfl ?_
  refine nR44 ?_
  have H := H0
  have hlen : fd.length = m := by have := congrArg List.length hk; simpa using this
  refine run_seq ?_
  refine run_region ?_
  refine ops_val (ex_move rfl) ?_
  refine ops_val (ex_len_slice Tryz.underlying134 rfl) ?_
  refine ops_val (ex_move rfl) ?_
  refine ops_nil ?_
  refine nR44 ?_
  refine run_block ?_
  refine run_loop (fun n l w => ∃ (q : Nat) (y : Int) (g : Option Nat) (cap : Nat) (sp : List Value), m - q = n ∧ Fits [some (.pointer (some ⟨gp, 0, none⟩)), none, none, none, none, none, none, some (.slice A m c), some (.int .i64 m), some (.int .i64 y), none, none, none, none, none, none, none, none, none, none, none, none, none, none, none, none, none, none, none, none, none, none, none, none, none, none, none, none, none, none, none, none, none, none] l ∧ y = q ∧ q ≤ m ∧ POk 65536 g cap sp (wAll (fd.take q) st) ∧ Hp w0 w (bl (pw gp g0 cap0 sp0 st)) (pw gp g cap sp (wAll (fd.take q) st))) (m) ?_ ?_
  · exact ⟨0, _, g0, cap0, sp0, rfl, (fs (fn (fn (fn (fn (fn (fn (fs (fs (fs (fn (fn (fn (fn (fn (fn (fn (fn (fn (fn (fn (fn (fn (fn (fn (fn (fn (fn (fn (fn (fn (fn (fn (fn (fn (fn (fn (fn (fn (fn (fn (fn (fn (fn f0)))))))))))))))))))))))))))))))))))))))))))), rfl, Nat.zero_le _, hP, H⟩
  · rintro n l w1 ⟨q, y, g, cap, sp, rfl, hfit, rfl, hq, hP, H1⟩
    obtain ⟨j, rfl⟩ := hfit.open
    refine nR44 ?_
    clear hfit
    refine run_seq ?_
    refine run_region ?_
    refine ops_test (ex_lss rfl rfl) (fun hp10 => ?_) (fun hp10 => ?_)
    · have hql : q < m := by omega
      have hqf : q < fd.length := by omega
      obtain ⟨v, hv1, hv2⟩ := hF.each q hqf
      have hsn := wAll_snoc hqf st
      have hcq : w0.cell? (a.add (o + q)) = some v := by have := hC.cell q v hv1; rwa [add_add] at this
      have hbq : (a.add (o + q)).block ∉ bl (pw gp g0 cap0 sp0 st) := by rw [add_block]; have := hC.apart (by have := hF.len; omega); rwa [add_block] at this
      obtain ⟨pa, hpa⟩ := hA.some_ (by omega)
      subst hpa
      have hkd : fd[q].kd = .text := by
        have := congrArg (fun l => l[q]?) hk
        simpa [hqf, hql] using this
      obtain ⟨s, hfq⟩ : ∃ x, fd[q] = .text x := by
        generalize fd[q] = fq at hkd
        cases fq <;> first | exact ⟨_, rfl⟩ | cases hkd
      rw [hfq] at hv2 hsn
      have hve : v = strV s := hv2
      subst hve
      obtain ⟨st1, hst⟩ : ∃ x, wAll (fd.take q) st = x := ⟨_, rfl⟩
      have hcut := wAll_cut hqf (st := st)
      rw [hfq, hst] at hcut
      rw [hst] at hsn H1 hP
      refine ops_nil ?_
      refine nR44 ?_
      refine run_seq ?_
      refine run_cond_true rfl ?_
      refine run_skip ?_
      refine run_seq ?_
      refine run_block ?_
      refine run_seq ?_
      refine run_region ?_
      refine ops_val (ex_idx Tryz.underlying134 ty86 rfl rfl rfl hql (Nat.mul_one _)) ?_
      refine ops_val (ex_load ty86 rfl ((hA.to H1 hS).cells pa rfl q _ (ptrsA_get hql))) ?_
      refine ops_val (ex_assign rfl) ?_
      refine ops_nil ?_
      refine nR44 ?_
      refine run_seq ?_
      refine run_seq ?_
      refine run_region ?_
      refine ops_val (ex_move rfl) ?_
      refine ops_val (ex_nilCheck rfl) ?_
      refine ops_val (ex_fieldAddr fl80_0 rfl) ?_
      refine ops_val (ex_load ty78 rfl (H1.cell (i := 0) rfl rfl)) ?_
      refine nO44 ?_
      refine ops_true (ex_eql_nil_ptr Tryz.underlying78 rfl) (rfl) ?_
      refine ops_val (ex_move rfl) ?_
      refine nO44 ?_
      refine ops_yes rfl ?_
      refine ops_val (ex_move rfl) ?_
      refine ops_yes rfl ?_
      refine ops_val (ex_nilCheck rfl) ?_
      refine nO44 ?_
      refine ops_yes rfl ?_
      refine ops_val (ex_load ty9 rfl (cell_to hcq H1 hbq)) ?_
      refine ops_yes rfl ?_
      refine ops_val (ex_len_string Tryz.underlying9 rfl) ?_
      rw [strV_size]
      refine nO44 ?_
      refine ops_yes rfl ?_
      refine ops_test (ex_gtr rfl rfl) (fun hp23 => ?_) (fun hp23 => ?_)
      · skip
        refine ops_val (ex_pick_t rfl rfl) ?_
        refine ops_nil ?_
        refine nR44 ?_
        refine run_cond_true rfl ?_
        refine run_seq ?_
        refine run_region ?_
        refine ops_val (ex_move rfl) ?_
        refine ops_val (ex_nilCheck rfl) ?_
        refine ops_val (ex_fieldAddr fl80_2 rfl) ?_
        refine ops_store1 ty4 H1 0 rfl rfl rfl rfl (by first | decide | simp) rfl ?_
        intro w2 H2
        refine ops_nil ?_
        refine nR44 ?_
        refine run_ret ?_
        refine blk_ret ?_
        refine rnd_ret ?_
        refine blk_ret ?_
        refine fin_ret0 rfl ?_
        rw [hcut (by simp [tooLong]; omega)]
        exact ⟨g, cap, sp, ⟨hP.1, hP.2, hP.3, hP.4⟩, H2⟩
      · have hnl : tooLong (.text s) = false := by simp [tooLong]; omega
        refine ops_val (ex_pick_t rfl rfl) ?_
        refine ops_nil ?_
        refine nR44 ?_
        refine run_cond_false rfl ?_
        refine run_skip ?_
        refine run_seq ?_
        refine run_region ?_
        refine ops_val (ex_move rfl) ?_
        refine ops_val (ex_nilCheck rfl) ?_
        refine ops_val (ex_load ty9 rfl (cell_to hcq H1 hbq)) ?_
        have hgn := fresh_not H1 (g := w1.heap.size) (Nat.le_refl _)
        refine ops_strBytes Tryz.underlying9 Tryz.underlying29 Tryz.underlying5 H1 (s := s) rfl ?_
        intro w2 gs cs1 HB hrs hgs hsz
        rw [← hgs] at hgn
        have H2 := HB.here
        refine nO44 ?_
        refine ops_alloc ty29 H2 ?_
        intro w3 gb H3 hgb
        refine ops_store1 ty29 H3 2 rfl rfl rfl rfl (by first | decide | simp) rfl ?_
        intro w4 H4
        refine ops_nil ?_
        refine nR44 ?_
        refine run_seq ?_
        refine run_region ?_
        refine ops_val (ex_move rfl) ?_
        have HQ : Hp _ w4 _ (pw gp g cap sp st1 ++ [(some gb, 29, [Value.slice (some ⟨gs, 0, none⟩) s.length cs1])]) := H4
        have hgb2 := row_apart (es1 := pw gp g cap sp st1) (R := [(some gb, 29, [Value.slice (some ⟨gs, 0, none⟩) s.length cs1])]) HQ (i := 0) (g := some gb) rfl ⟨gb, 0, none⟩ rfl
        have hk := pbytes_w gp g cap sp st1 ⟨gb, 0, none⟩ [.bytes s] [Value.slice (some ⟨gs, 0, none⟩) s.length cs1] _ HQ.less.here hP rfl (FPs.one (f := .bytes s) ⟨_, _, rfl, hrs.fc HQ.less (fun _ p hp => by cases hp; exact hgn), fun h0 => apt_to hrs h0 (fun p hp => by cases hp; exact hgn) HQ.less⟩) (HQ.cl (i := 2) rfl hgb2)
        refine ops_call (ex_call gf43 rfl) hk ?_
        rintro _ w5 ⟨g, cap, sp, hP, Hd⟩
        have H5 := (HB.all (HQ.front Hd)).pick [0, 1] (by decide)
        refine ops_nil ?_
        refine nR44 ?_
        refine run_seq ?_
        refine run_region ?_
        refine ops_val (ex_move rfl) ?_
        refine ops_val (ex_nilCheck rfl) ?_
        refine ops_val (ex_fieldAddr fl80_0 rfl) ?_
        refine ops_val (ex_load ty78 rfl (H5.cell (i := 0) rfl rfl)) ?_
        refine nO44 ?_
        refine ops_false (ex_neq_nil_ptr Tryz.underlying78 rfl) (by simp) ?_
        refine ops_nil ?_
        refine nR44 ?_
        refine run_cond_false rfl ?_
        refine run_skip ?_
        refine run_nil (blk_normal ?_)
        refine run_region ?_
        refine ops_val (ex_add rfl rfl (IntWalk.i64_in _ (by omega))) ?_
        refine ops_val (ex_move rfl) ?_
        refine ops_nil ?_
        refine nR44 ?_
        refine run_nil (rnd_normal ?_)
        exact ⟨m - (q + 1), by omega, q + 1, _, g, cap, sp, rfl, (fs (fn (fn (fn (fn (fn (fn (fs (fs (fs (fn (fn (fn (fn (fn (fn (fn (fn (fn (fn (fn (fn (fn (fn (fn (fn (fn (fn (fn (fn (fn (fn (fn (fn (fn (fn (fn (fn (fn (fn (fn (fn (fn (fn f0)))))))))))))))))))))))))))))))))))))))))))), rfl, by omega, by rw [hsn]; exact hP, by rw [hsn]; exact H5⟩
    · have hqm : q = m := by omega
      subst hqm
      rw [List.take_of_length_le (by omega)] at H1 hP
      refine ops_nil ?_
      refine nR44 ?_
      refine run_seq ?_
      refine run_cond_false rfl ?_
      refine run_exit ?_
      refine rnd_exit ?_
      refine blk_exit ?_
      refine run_nil ?_
      refine fin_end0 rfl ?_
      exact ⟨g, cap, sp, hP, H1⟩
theorem ptext_W : PenWs Tryz.prog 31 .text := fun gp g cap sp st a o m c x vs w0 A hm H0 hP hM hC hA hS => ptext_w gp g cap sp st a o m c x vs w0 H0 hP A hm hM.1 hM.2 hC hA hS
end Go.Proofs.YtoeobicpdeklaaaGreat
