/- Walks of layer 2, printed by wip/gen/codec.py. -/
import Derived.Test.YtoeobicpdeklaaaGreatNrm
import Derived.Test.YtoeobicpdeklaaaGreatLst
import Derived.Test.YtoeobicpdeklaaaGreatWireD
namespace Go.Proofs.YtoeobicpdeklaaaGreat
open Go Go.RowKit
set_option linter.unusedVariables false
attribute [local irreducible] Still Ops Does Cd
set_option maxRecDepth 100000 in
set_option maxHeartbeats 4000000 in
theorem many_w (gp : Nat) (g : Option Nat) (cap : Nat) (sp : List Value) (st : WS) (n : Nat) (w0 : World) (H0 : Hp w0 w0 (bl (vw gp g cap sp st)) (vw gp g cap sp st)) (m : Nat) (hm : m ≤ 1000000000) (hP : POk m g cap sp st) (hn : n < 9223372036854775807) :
    Does Tryz.prog 79 #[.pointer (some ⟨gp, 0, none⟩), .int .i64 (n : Int)] w0 (fun r w' => ∃ g1 cap1 sp1, r = .int .i64 ((if st.long = true ∨ 1024 < n then 0 else n : Nat) : Int) ∧ POk (m + 65545) g1 cap1 sp1 (vFld (.count n) st) ∧ Hp w0 w' (bl (vw gp g cap sp st)) (vw gp g1 cap1 sp1 (vFld (.count n) st))) := by
  refine does_of Tryz.func79 Tryz.ntmps79 rfl ?_
  refine nR38 ?_
  have H := H0
  obtain ⟨so, sl⟩ := st
  refine run_seq ?_
  refine run_region ?_
  refine ops_val (ex_assign rfl) ?_
  refine ops_nil ?_
  refine nR38 ?_
  refine run_seq ?_
  refine run_seq ?_
  refine run_region ?_
  refine ops_val (ex_move rfl) ?_
  refine ops_val (ex_nilCheck rfl) ?_
  refine ops_val (ex_fieldAddr fl51_1 rfl) ?_
  refine ops_val (ex_load ty49 rfl (H.cell (i := 0) rfl rfl)) ?_
  refine nO38 ?_
  refine ops_false (ex_neq_nil_ptr Tryz.underlying49 rfl) (by simp) ?_
  refine ops_nil ?_
  refine nR38 ?_
  refine run_cond_false rfl ?_
  refine run_skip ?_
  refine run_seq ?_
  refine run_seq ?_
  cases sl
  · skip
    refine run_region ?_
    refine ops_val (ex_move rfl) ?_
    refine ops_val (ex_nilCheck rfl) ?_
    refine ops_val (ex_fieldAddr fl51_2 rfl) ?_
    refine ops_val (ex_load ty4 rfl (H.cell (i := 0) rfl rfl)) ?_
    refine nO38 ?_
    refine ops_val (ex_move rfl) ?_
    refine ops_yes rfl ?_
    refine ops_val (ex_move rfl) ?_
    refine nO38 ?_
    refine ops_yes rfl ?_
    refine ops_test (ex_gtr rfl rfl) (fun hp21 => ?_) (fun hp21 => ?_)
    · skip
      refine ops_val (ex_pick_f rfl rfl) ?_
      refine ops_nil ?_
      refine nR38 ?_
      refine run_cond_true rfl ?_
      refine run_seq ?_
      refine run_region ?_
      refine ops_val (ex_move rfl) ?_
      refine ops_val (ex_nilCheck rfl) ?_
      refine ops_val (ex_fieldAddr fl51_2 rfl) ?_
      refine ops_store1 ty4 H 0 rfl rfl rfl rfl (by first | decide | simp) rfl ?_
      intro w1 H1
      refine ops_nil ?_
      refine nR38 ?_
      refine run_seq ?_
      refine run_region ?_
      refine ops_val (ex_assign rfl) ?_
      refine ops_nil ?_
      refine nR38 ?_
      refine run_ret ?_
      refine fin_ret1 rfl rfl ?_
      have hv : vFld (.count n) ⟨so, false⟩ = ⟨so, true⟩ := vFld_count_long (.inr (by simp [tooLong]; omega))
      exact ⟨g, cap, sp, by rw [if_pos (.inr (by omega))]; rfl, by rw [hv]; exact ⟨hP.1, hP.2, hP.3, Nat.le_trans hP.4 (Nat.le_add_right _ _)⟩, by rw [hv]; exact H1⟩
    · have hxl := enc_len64 (v := n) (by omega)
      have hmost := hP.most
      simp only at hmost
      refine ops_val (ex_pick_f rfl rfl) ?_
      refine ops_nil ?_
      refine nR38 ?_
      refine run_cond_false rfl ?_
      refine run_skip ?_
      refine run_seq ?_
      refine run_mixZ 11 [(true, 0), (true, 1), (true, 2), (true, 3), (true, 4), (true, 5), (true, 6), (false, 7), (false, 8), (true, 9), (true, 10), (false, 11)] H [0] mixed (by decide) (by kernel_rfl) ?_
      rintro w1 hw1
      have H1 := Hp.drew H; rw [← hw1] at H1
      refine mixz_p rfl ?_
      refine mix1_val (fun wz hz => ex_move rfl) ?_
      refine mixz_p rfl ?_
      refine mix1_val (fun wz hz => ex_move rfl) ?_
      refine mixz_p rfl ?_
      refine mix1_val (fun wz hz => ex_nilCheck rfl) ?_
      refine mixz_p rfl ?_
      refine mix1_val (fun wz hz => ex_fieldAddr fl51_0 rfl) ?_
      refine nZ38 ?_
      refine mixz_p rfl ?_
      refine mix1_val (fun wz hz => ex_load ty29 rfl (hz.cell (i := 0) rfl rfl)) ?_
      refine mixz_p rfl ?_
      refine mix1_val (fun wz hz => ex_move rfl) ?_
      refine mixz_p rfl ?_
      refine mix1_val (fun wz hz => ex_conv Tryz.underlying136 Tryz.underlying3 rfl (IntWalk.u64_in _ (by omega))) ?_
      refine mixz_o rfl ?_
      refine ops_call_own (ex_call gf99 rfl) (rnum_any n _ (by omega)) ?_
      intro w2 g1 c1 sp1 hm1 hc1 hg1 Hd
      have H2 := H1.call0 Hd
      refine ops_nil ?_
      refine ⟨fun hne => H2.pick [0] (by decide), ?_⟩
      refine nZ38 ?_
      refine mixz_o rfl ?_
      refine ops_app8 Tryz.underlying29 ty5 H2 1 (L := so) (M := enc n) (g := g) (sp := sp) rfl rfl hP.room hP.le hP.nil rfl (H2.rd (i := 2) (o := g1) (xs := u8s (enc n)) (sp := sp1) rfl (u8s_length1 _) (by decide)) (by omega) ?_
      intro w3 g3 cap3 sp3 H3 hmc3 hcap3 hg3
      refine ops_nil ?_
      refine ⟨fun hne => H3.pick [0] (by decide), ?_⟩
      refine nZ38 ?_
      refine mixz_p rfl ?_
      refine mix1_val (fun wz hz => ex_nilCheck rfl) ?_
      refine mixz_p rfl ?_
      refine mix1_val (fun wz hz => ex_fieldAddr fl51_0 rfl) ?_
      refine mixz_o rfl ?_
      refine ops_store1 ty29 H3 0 rfl rfl rfl rfl (by first | decide | simp) rfl ?_
      intro w4 H4
      refine ops_nil ?_
      refine ⟨fun hne => absurd rfl hne, ?_⟩
      refine nZ38 ?_
      refine mixz_nil ?_
      refine nR38 ?_
      refine run_seq ?_
      refine run_region ?_
      refine ops_val (ex_move rfl) ?_
      refine ops_val (ex_assign rfl) ?_
      refine ops_nil ?_
      refine nR38 ?_
      refine run_ret ?_
      refine fin_ret1 rfl rfl ?_
      have hv : vFld (.count n) ⟨so, false⟩ = ⟨so ++ enc n, false⟩ := vFld_count_put (by simp [tooLong]; omega)
      exact ⟨g3, cap3, sp3, by rw [if_neg (by rintro (h | h); cases h; omega)], by rw [hv]; exact ⟨hmc3, hcap3, hg3, by show (so ++ enc n).length ≤ _; rw [List.length_append]; omega⟩, by rw [hv]; exact H4.pick [0, 1] (by decide)⟩
  · skip
    refine run_region ?_
    refine ops_val (ex_move rfl) ?_
    refine ops_val (ex_nilCheck rfl) ?_
    refine ops_val (ex_fieldAddr fl51_2 rfl) ?_
    refine ops_val (ex_load ty4 rfl (H.cell (i := 0) rfl rfl)) ?_
    refine nO38 ?_
    refine ops_val (ex_move rfl) ?_
    refine ops_no rfl ?_
    refine nO38 ?_
    refine ops_no rfl ?_
    refine ops_val (ex_pick_t rfl rfl) ?_
    refine ops_nil ?_
    refine nR38 ?_
    refine run_cond_true rfl ?_
    refine run_seq ?_
    refine run_region ?_
    refine ops_val (ex_move rfl) ?_
    refine ops_val (ex_nilCheck rfl) ?_
    refine ops_val (ex_fieldAddr fl51_2 rfl) ?_
    refine ops_store1 ty4 H 0 rfl rfl rfl rfl (by first | decide | simp) rfl ?_
    intro w1 H1
    refine ops_nil ?_
    refine nR38 ?_
    refine run_seq ?_
    refine run_region ?_
    refine ops_val (ex_assign rfl) ?_
    refine ops_nil ?_
    refine nR38 ?_
    refine run_ret ?_
    refine fin_ret1 rfl rfl ?_
    have hv : vFld (.count n) ⟨so, true⟩ = ⟨so, true⟩ := vFld_count_long (.inl rfl)
    exact ⟨g, cap, sp, by rw [if_pos (.inl rfl)]; rfl, by rw [hv]; exact ⟨hP.1, hP.2, hP.3, Nat.le_trans hP.4 (Nat.le_add_right _ _)⟩, by rw [hv]; exact H1⟩
set_option maxRecDepth 100000 in
set_option maxHeartbeats 4000000 in
theorem many_r (gp gr : Nat) (gb : Option Nat) (cb : Nat) (sb : List Value) (b : List UInt8) (i e : Nat) (w0 : World) (H0 : Hp w0 w0 (bl (vr gp gr gb cb sb b i e)) (vr gp gr gb cb sb b i e)) (hcb : b.length ≤ cb) (hbl : b.length ≤ 65536) (hi : i ≤ b.length) :
    Does Tryz.prog 79 #[.pointer (some ⟨gp, 0, none⟩), .int .i64 0] w0 (fun r w' => r = .int .i64 ((countStep b 1024 i e).1 : Int) ∧ Hp w0 w' (bl (vr gp gr gb cb sb b i e)) (vr gp gr gb cb sb b (countStep b 1024 i e).2.1 (countStep b 1024 i e).2.2)) := by
  refine does_of Tryz.func79 Tryz.ntmps79 rfl ?_
  refine nR38 ?_
  have H := H0
  refine run_seq ?_
  refine run_region ?_
  refine ops_val (ex_assign rfl) ?_
  refine ops_nil ?_
  refine nR38 ?_
  refine run_seq ?_
  refine run_seq ?_
  refine run_region ?_
  refine ops_val (ex_move rfl) ?_
  refine ops_val (ex_nilCheck rfl) ?_
  refine ops_val (ex_fieldAddr fl51_1 rfl) ?_
  refine ops_val (ex_load ty49 rfl (H.cell (i := 0) rfl rfl)) ?_
  refine nO38 ?_
  refine ops_true (ex_neq_nil_ptr Tryz.underlying49 rfl) (by simp) ?_
  refine ops_nil ?_
  refine nR38 ?_
  refine run_cond_true rfl ?_
  refine run_seq ?_
  refine run_region ?_
  refine ops_val (ex_move rfl) ?_
  refine ops_val (ex_nilCheck rfl) ?_
  refine ops_val (ex_fieldAddr fl51_1 rfl) ?_
  refine ops_val (ex_load ty49 rfl (H.cell (i := 0) rfl rfl)) ?_
  refine nO38 ?_
  refine ops_call_val (ex_call gf101 rfl) (countW_rd gr (hd gb) cb b i e _ (rdw_of H (j := 1) (k := 2) rfl rfl (by decide) hcb (by omega) hi) 1024 (by decide) (by decide)) ?_
  intro w1 Hd
  have H1 := (H.call1 (i := 1) rfl Hd).pick [0, 3, 2] (by decide)
  refine ops_val (ex_assign rfl) ?_
  refine ops_nil ?_
  refine nR38 ?_
  refine run_ret ?_
  refine fin_ret1 rfl rfl ?_
  exact ⟨rfl, H1⟩
set_option maxRecDepth 100000 in
set_option maxHeartbeats 4000000 in
theorem more_w (gp : Nat) (g : Option Nat) (cap : Nat) (sp : List Value) (st : WS) (w0 : World) (H0 : Hp w0 w0 (bl (vw gp g cap sp st)) (vw gp g cap sp st)) :
    Does Tryz.prog 80 #[.pointer (some ⟨gp, 0, none⟩)] w0 (fun r w' => r = .bool (decide (¬ (st.long = true ∨ 65536 < st.out.length))) ∧ Hp w0 w' (bl (vw gp g cap sp st)) (vw gp g cap sp st)) := by
  refine does_of Tryz.func80 Tryz.ntmps80 rfl ?_
  refine nR29 ?_
  have H := H0
  obtain ⟨so, sl⟩ := st
  refine run_seq ?_
  refine run_region ?_
  refine ops_val (ex_assign rfl) ?_
  refine ops_nil ?_
  refine nR29 ?_
  refine run_seq ?_
  refine run_seq ?_
  refine run_region ?_
  refine ops_val (ex_move rfl) ?_
  refine ops_val (ex_nilCheck rfl) ?_
  refine ops_val (ex_fieldAddr fl51_1 rfl) ?_
  refine ops_val (ex_load ty49 rfl (H.cell (i := 0) rfl rfl)) ?_
  refine nO29 ?_
  refine ops_false (ex_neq_nil_ptr Tryz.underlying49 rfl) (by simp) ?_
  refine ops_nil ?_
  refine nR29 ?_
  refine run_cond_false rfl ?_
  refine run_skip ?_
  refine run_seq ?_
  cases sl
  · skip
    refine run_region ?_
    refine ops_val (ex_move rfl) ?_
    refine ops_val (ex_nilCheck rfl) ?_
    refine ops_val (ex_fieldAddr fl51_2 rfl) ?_
    refine ops_val (ex_load ty4 rfl (H.cell (i := 0) rfl rfl)) ?_
    refine nO29 ?_
    refine ops_val (ex_not rfl) ?_
    refine ops_val (ex_move rfl) ?_
    refine nO29 ?_
    refine ops_yes rfl ?_
    refine ops_val (ex_move rfl) ?_
    refine ops_yes rfl ?_
    refine ops_val (ex_nilCheck rfl) ?_
    refine nO29 ?_
    refine ops_yes rfl ?_
    refine ops_val (ex_fieldAddr fl51_0 rfl) ?_
    refine ops_yes rfl ?_
    refine ops_val (ex_load ty29 rfl (H.cell (i := 0) rfl rfl)) ?_
    refine nO29 ?_
    refine ops_yes rfl ?_
    refine ops_val (ex_len_slice Tryz.underlying29 rfl) ?_
    refine ops_yes rfl ?_
    refine ops_test (ex_leq rfl rfl) (fun hp27 => ?_) (fun hp27 => ?_)
    · skip
      refine ops_val (ex_pick_t rfl rfl) ?_
      refine ops_val (ex_assign rfl) ?_
      refine ops_nil ?_
      refine nR29 ?_
      refine run_ret ?_
      refine fin_ret1 rfl rfl ?_
      exact ⟨by rw [decide_eq_true]; rintro (h | h); cases h; simp only at h hp27; omega, H⟩
    · skip
      refine ops_val (ex_pick_t rfl rfl) ?_
      refine ops_val (ex_assign rfl) ?_
      refine ops_nil ?_
      refine nR29 ?_
      refine run_ret ?_
      refine fin_ret1 rfl rfl ?_
      exact ⟨by rw [decide_eq_false]; simp only [Classical.not_not]; right; simp only at hp27; omega, H⟩
  · skip
    refine run_region ?_
    refine ops_val (ex_move rfl) ?_
    refine ops_val (ex_nilCheck rfl) ?_
    refine ops_val (ex_fieldAddr fl51_2 rfl) ?_
    refine ops_val (ex_load ty4 rfl (H.cell (i := 0) rfl rfl)) ?_
    refine nO29 ?_
    refine ops_val (ex_not rfl) ?_
    refine ops_val (ex_move rfl) ?_
    refine nO29 ?_
    refine ops_no rfl ?_
    refine ops_no rfl ?_
    refine nO29 ?_
    refine ops_no rfl ?_
    refine ops_no rfl ?_
    refine nO29 ?_
    refine ops_no rfl ?_
    refine ops_no rfl ?_
    refine ops_val (ex_pick_f rfl rfl) ?_
    refine ops_val (ex_assign rfl) ?_
    refine ops_nil ?_
    refine nR29 ?_
    refine run_ret ?_
    refine fin_ret1 rfl rfl ?_
    exact ⟨by rw [decide_eq_false (by simp)], H⟩
set_option maxRecDepth 100000 in
set_option maxHeartbeats 4000000 in
theorem more_r (gp gr : Nat) (gb : Option Nat) (cb : Nat) (sb : List Value) (b : List UInt8) (i e : Nat) (w0 : World) (H0 : Hp w0 w0 (bl (vr gp gr gb cb sb b i e)) (vr gp gr gb cb sb b i e)) :
    Does Tryz.prog 80 #[.pointer (some ⟨gp, 0, none⟩)] w0 (fun r w' => r = .bool (decide (e = 0)) ∧ Hp w0 w' (bl (vr gp gr gb cb sb b i e)) (vr gp gr gb cb sb b i e)) := by
  refine does_of Tryz.func80 Tryz.ntmps80 rfl ?_
  refine nR29 ?_
  have H := H0
  refine run_seq ?_
  refine run_region ?_
  refine ops_val (ex_assign rfl) ?_
  refine ops_nil ?_
  refine nR29 ?_
  refine run_seq ?_
  refine run_seq ?_
  refine run_region ?_
  refine ops_val (ex_move rfl) ?_
  refine ops_val (ex_nilCheck rfl) ?_
  refine ops_val (ex_fieldAddr fl51_1 rfl) ?_
  refine ops_val (ex_load ty49 rfl (H.cell (i := 0) rfl rfl)) ?_
  refine nO29 ?_
  refine ops_true (ex_neq_nil_ptr Tryz.underlying49 rfl) (by simp) ?_
  refine ops_nil ?_
  refine nR29 ?_
  refine run_cond_true rfl ?_
  refine run_seq ?_
  refine run_region ?_
  refine ops_val (ex_move rfl) ?_
  refine ops_val (ex_nilCheck rfl) ?_
  refine ops_val (ex_fieldAddr fl51_1 rfl) ?_
  refine ops_val (ex_load ty49 rfl (H.cell (i := 0) rfl rfl)) ?_
  refine nO29 ?_
  refine ops_val (ex_nilCheck rfl) ?_
  refine ops_val (ex_fieldAddr fl125_2 rfl) ?_
  refine ops_val (ex_load ty32 rfl (H.cell (i := 1) rfl rfl)) ?_
  refine ops_test (ex_eql rfl rfl) (fun hp15 => ?_) (fun hp15 => ?_)
  · skip
    refine ops_val (ex_assign rfl) ?_
    refine ops_nil ?_
    refine nR29 ?_
    refine run_ret ?_
    refine fin_ret1 rfl rfl ?_
    exact ⟨by rw [decide_eq_true (by omega)], H⟩
  · skip
    refine ops_val (ex_assign rfl) ?_
    refine ops_nil ?_
    refine nR29 ?_
    refine run_ret ?_
    refine fin_ret1 rfl rfl ?_
    exact ⟨by rw [decide_eq_false (by omega)], H⟩
end Go.Proofs.YtoeobicpdeklaaaGreat
