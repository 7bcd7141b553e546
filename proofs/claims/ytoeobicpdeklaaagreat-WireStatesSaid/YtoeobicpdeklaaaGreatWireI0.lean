/- Walks of layer 2, printed by wip/gen/codec.py. -/
import Derived.Test.YtoeobicpdeklaaaGreatNrm
import Derived.Test.YtoeobicpdeklaaaGreatWireG
import Derived.Test.YtoeobicpdeklaaaGreatWireF
namespace Go.Proofs.YtoeobicpdeklaaaGreat
open Go Go.RowKit
set_option linter.unusedVariables false
attribute [local irreducible] Still Ops Does Cd
set_option maxRecDepth 100000 in
set_option maxHeartbeats 4000000 in
theorem done_any (gp : Nat) (g : Option Nat) (cap : Nat) (sp : List Value) (st : WS) (go : Nat) (U : TypeId) (cs : List Value) (w0 : World) (H0 : Hp w0 w0 (bl (vwo gp g cap sp st go U cs)) (vwo gp g cap sp st go U cs)) (m : Nat) (hP : POk m g cap sp st) (a : WS) (hL : Alike a st) :
    Does Tryz.prog 17 #[.pointer (some ⟨gp, 0, none⟩)] w0 (fun r w' => ∃ g2 cap2 sp2, r = .tuple #[.slice (hd g2) (outOf a).length cap2, .int .i64 (errOf a : Int)] ∧ (outOf a).length ≤ cap2 ∧ cap2 * 1 ≤ (u8s (outOf a) ++ sp2).length ∧ (g2 = none → cap2 = 0) ∧ (outOf a).length ≤ 65536 ∧ Hp w0 w' (bl (vwo gp g cap sp st go U cs)) [(g2, 5, u8s (outOf a) ++ sp2)]) := by
  refine does_of Tryz.func17 Tryz.ntmps17 rfl ?_
  refine nR20 ?_
  have H := H0
  obtain ⟨sout, slong⟩ := st
  obtain ⟨q1, q2⟩ := alike_out hL
  refine run_seq ?_
  refine run_region ?_
  refine ops_val (ex_assign rfl) ?_
  refine ops_val (ex_assign rfl) ?_
  refine ops_nil ?_
  refine nR20 ?_
  refine run_seq ?_
  refine run_seq ?_
  cases slong
  · skip
    refine run_region ?_
    refine ops_val (ex_move rfl) ?_
    refine ops_val (ex_nilCheck rfl) ?_
    refine ops_val (ex_fieldAddr fl51_2 rfl) ?_
    refine ops_val (ex_load ty4 rfl (H.cell (i := 0) rfl rfl)) ?_
    refine nO20 ?_
    refine ops_val (ex_move rfl) ?_
    refine ops_yes rfl ?_
    refine ops_val (ex_move rfl) ?_
    refine nO20 ?_
    refine ops_yes rfl ?_
    refine ops_val (ex_nilCheck rfl) ?_
    refine ops_yes rfl ?_
    refine ops_val (ex_fieldAddr fl51_0 rfl) ?_
    refine nO20 ?_
    refine ops_yes rfl ?_
    refine ops_val (ex_load ty29 rfl (H.cell (i := 0) rfl rfl)) ?_
    refine ops_yes rfl ?_
    refine ops_val (ex_len_slice Tryz.underlying29 rfl) ?_
    refine nO20 ?_
    refine ops_yes rfl ?_
    refine ops_test (ex_gtr rfl rfl) (fun hp14 => ?_) (fun hp14 => ?_)
    · have hl := q1 (.inr (by dsimp only at hp14 ⊢; omega))
      refine ops_val (ex_pick_f rfl rfl) ?_
      refine ops_nil ?_
      refine nR20 ?_
      refine run_cond_true rfl ?_
      refine run_seq ?_
      refine run_region ?_
      refine ops_val (ex_assign rfl) ?_
      refine ops_val (ex_assign rfl) ?_
      refine ops_nil ?_
      refine nR20 ?_
      refine run_ret ?_
      refine fin_ret2 rfl rfl rfl ?_
      obtain ⟨r1, r2⟩ := errOf_long hl
      exact ⟨none, 0, [], by rw [r1, r2]; rfl, by rw [r1]; exact Nat.le_refl 0, Nat.zero_le _, fun _ => rfl, by rw [r1]; decide, by rw [r1]; exact Hp.nil (H.pick [] (by decide)) 5⟩
    · obtain ⟨hl, ho⟩ := q2 (by rintro (h | h); cases h; dsimp only at h hp14; omega)
      refine ops_val (ex_pick_f rfl rfl) ?_
      refine ops_nil ?_
      refine nR20 ?_
      refine run_cond_false rfl ?_
      refine run_skip ?_
      refine run_seq ?_
      refine run_region ?_
      refine ops_val (ex_move rfl) ?_
      refine ops_val (ex_nilCheck rfl) ?_
      refine ops_val (ex_fieldAddr fl51_0 rfl) ?_
      refine ops_val (ex_load ty29 rfl (H.cell (i := 0) rfl rfl)) ?_
      refine nO20 ?_
      refine ops_val (ex_assign rfl) ?_
      refine ops_val (ex_assign rfl) ?_
      refine ops_nil ?_
      refine nR20 ?_
      refine run_ret ?_
      refine fin_ret2 rfl rfl rfl ?_
      obtain ⟨r1, r2⟩ := errOf_ok hl
      simp only at ho
      exact ⟨g, cap, sp, by rw [r1, r2, ho]; rfl, by rw [r1, ho]; exact hP.le, by rw [r1, ho]; exact hP.room, hP.nil, by rw [r1, ho]; dsimp only at hp14; omega, by rw [r1, ho]; exact H.pick [1] (by decide)⟩
  · skip
    refine run_region ?_
    refine ops_val (ex_move rfl) ?_
    refine ops_val (ex_nilCheck rfl) ?_
    refine ops_val (ex_fieldAddr fl51_2 rfl) ?_
    refine ops_val (ex_load ty4 rfl (H.cell (i := 0) rfl rfl)) ?_
    refine nO20 ?_
    refine ops_val (ex_move rfl) ?_
    refine ops_no rfl ?_
    refine nO20 ?_
    refine ops_no rfl ?_
    refine ops_no rfl ?_
    refine nO20 ?_
    refine ops_no rfl ?_
    refine ops_no rfl ?_
    refine nO20 ?_
    refine ops_no rfl ?_
    refine ops_val (ex_pick_t rfl rfl) ?_
    refine ops_nil ?_
    refine nR20 ?_
    refine run_cond_true rfl ?_
    refine run_seq ?_
    refine run_region ?_
    refine ops_val (ex_assign rfl) ?_
    refine ops_val (ex_assign rfl) ?_
    refine ops_nil ?_
    refine nR20 ?_
    refine run_ret ?_
    refine fin_ret2 rfl rfl rfl ?_
    have hl := q1 (.inl rfl)
    obtain ⟨r1, r2⟩ := errOf_long hl
    exact ⟨none, 0, [], by rw [r1, r2]; rfl, by rw [r1]; exact Nat.le_refl 0, Nat.zero_le _, fun _ => rfl, by rw [r1]; decide, by rw [r1]; exact Hp.nil (H.pick [] (by decide)) 5⟩
set_option maxRecDepth 100000 in
set_option maxHeartbeats 4000000 in
theorem in_long (AA : Option Addr) (b : List UInt8) (c : Nat) (w0 : World) (hl : 65536 < b.length) :
    Does Tryz.prog 20 #[.slice AA b.length c] w0 (fun r w' => ∃ gk : Nat, r = .tuple #[.pointer (some ⟨gk, 0, none⟩), .int .i64 22] ∧ Hp w0 w' [] []) := by
  refine does_of Tryz.func20 Tryz.ntmps20 rfl ?_
  refine nR14 ?_
  have H := Hp.refl w0
  refine run_seq ?_
  refine run_region ?_
  refine ops_val (ex_assign rfl) ?_
  refine ops_val (ex_assign rfl) ?_
  refine ops_nil ?_
  refine nR14 ?_
  refine run_seq ?_
  refine run_seq ?_
  refine run_region ?_
  refine ops_val (ex_move rfl) ?_
  refine ops_val (ex_len_slice Tryz.underlying29 rfl) ?_
  refine ops_true (ex_gtr rfl rfl) (by omega) ?_
  refine ops_nil ?_
  refine nR14 ?_
  refine run_cond_true rfl ?_
  refine run_seq ?_
  refine run_region ?_
  refine ops_newW (ex_call gf58 rfl) (newW_any none [] 0 _ (Rd.none_ _ _) (by decide)) ?_
  intro w1 gr g cap sp hcb hroom hnil Hd
  have H1 := H.call0 Hd
  refine ops_val (ex_build ty51 pl51 rfl rfl) ?_
  refine ops_box rfl rfl H1 ?_
  intro w2 gk H2 hgk
  refine ops_val (ex_assign rfl) ?_
  refine nO14 ?_
  refine ops_val (ex_assign rfl) ?_
  refine ops_nil ?_
  refine nR14 ?_
  refine run_ret ?_
  refine fin_ret2 rfl rfl rfl ?_
  exact ⟨gk, rfl, H2.pick [] (by decide)⟩
set_option maxRecDepth 100000 in
set_option maxHeartbeats 4000000 in
theorem in_ok (AA : Option Addr) (b : List UInt8) (c : Nat) (w0 : World) (hl : b.length ≤ 65536) (hr : Rd w0 AA b.length 1 (u8s b)) :
    Does Tryz.prog 20 #[.slice AA b.length c] w0 (fun r w' => ∃ gk gr g cap sp, r = .tuple #[.pointer (some ⟨gk, 0, none⟩), .int .i64 0] ∧ b.length ≤ cap ∧ Hp w0 w' [] (vr gk gr g cap sp b 0 0)) := by
  refine does_of Tryz.func20 Tryz.ntmps20 rfl ?_
  refine nR14 ?_
  have H := Hp.refl w0
  refine run_seq ?_
  refine run_region ?_
  refine ops_val (ex_assign rfl) ?_
  refine ops_val (ex_assign rfl) ?_
  refine ops_nil ?_
  refine nR14 ?_
  refine run_seq ?_
  refine run_seq ?_
  refine run_region ?_
  refine ops_val (ex_move rfl) ?_
  refine ops_val (ex_len_slice Tryz.underlying29 rfl) ?_
  refine ops_false (ex_gtr rfl rfl) (by omega) ?_
  refine ops_nil ?_
  refine nR14 ?_
  refine run_cond_false rfl ?_
  refine run_skip ?_
  refine run_seq ?_
  refine run_region ?_
  refine ops_val (ex_move rfl) ?_
  refine ops_newW (ex_call gf58 rfl) (newW_any AA b c _ (hr.to0 H) (by omega)) ?_
  intro w1 gr g cap sp hcb hroom hnil Hd
  have H1 := H.call0 Hd
  refine ops_val (ex_build ty51 pl51 rfl rfl) ?_
  refine ops_box rfl rfl H1 ?_
  intro w2 gk H2 hgk
  refine nO14 ?_
  refine ops_val (ex_assign rfl) ?_
  refine ops_val (ex_assign rfl) ?_
  refine ops_nil ?_
  refine nR14 ?_
  refine run_ret ?_
  refine fin_ret2 rfl rfl rfl ?_
  exact ⟨gk, gr, g, cap, sp, rfl, hcb, H2.pick [2, 0, 1] (by decide)⟩
end Go.Proofs.YtoeobicpdeklaaaGreat
