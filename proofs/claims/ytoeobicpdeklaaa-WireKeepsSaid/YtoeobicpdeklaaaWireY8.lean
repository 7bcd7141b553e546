/- Walks of layer 2, printed by wip/gen/codec.py. -/
import Derived.Test.YtoeobicpdeklaaaWireU
namespace Go.Proofs.Ytoeobicpdeklaaa
open Go Go.RowKit
set_option linter.unusedVariables false
attribute [local irreducible] Still Ops Does Cd
set_option maxRecDepth 100000 in
set_option maxHeartbeats 4000000 in
theorem own_any (A : Option Addr) (b : List UInt8) (c : Nat) (w0 : World) (hr : Rd w0 A b.length 1 (u8s b)) (m : UInt8) (hb : b.length ≤ 211106232532900) :
    Does Try.prog 18 #[.slice A b.length c, .int .u8 (m.toNat : Int)] w0 (fun r w' => ∃ g cap sp, r = .slice (hd g) b.length cap ∧ b.length + 2 ≤ cap ∧ cap * 1 ≤ (u8s (b ++ [m, m]) ++ sp).length ∧ Hp w0 w' [] [(g, 5, u8s (b ++ [m, m]) ++ sp)]) := by
  refine does_of Try.func18 Try.ntmps18 rfl ?_
  change Run _ _ _ _ [.slice A b.length c, .int .u8 (m.toNat : Int), undef, undef, undef, undef, undef, undef, undef, undef, undef, undef, undef, undef, undef, undef, undef, undef, undef, undef, undef, undef] _
  have H := Hp.refl w0
  refine run_seq ?_
  refine run_region ?_
  refine ops_val (ex_assign rfl) ?_
  refine ops_nil ?_
  change Run _ _ _ _ [_, _, _, _, _, _, _, _, _, _, _, _, _, _, _, _, _, _, _, _, _, _] _
  refine run_seq ?_
  refine run_region ?_
  refine ops_val (ex_move rfl) ?_
  refine ops_val (ex_len_slice Try.underlying26 rfl) ?_
  refine ops_val (ex_add rfl rfl ((IntWalk.i64_in _ (by omega)).trans (show ((b.length : Int) + 2) = ((b.length + 2 : Nat) : Int) by omega))) ?_
  refine ops_make Try.underlying26 ty5 H rfl rfl (n := 0) (c := b.length + 2) (Nat.zero_le _) (by omega) (by omega) ?_
  intro w1 g0 H1 hg0
  change Ops _ _ _ _ _ _ [_, _, _, _, _, _, _, _, _, _, _, _, _, _, _, _, _, _, _, _, _, _] _
  refine ops_val (ex_assign rfl) ?_
  refine ops_nil ?_
  change Run _ _ _ _ [_, _, _, _, _, _, _, _, _, _, _, _, _, _, _, _, _, _, _, _, _, _] _
  refine run_seq ?_
  refine run_region ?_
  refine ops_val (ex_move rfl) ?_
  refine ops_val (ex_move rfl) ?_
  refine ops_app8 Try.underlying26 ty5 H1 0 (L := []) (M := b) (g := some g0) (sp := List.replicate (b.length + 2) (.int .u8 0)) rfl rfl (by simp [u8s]) (by simp) (by simp) rfl (hr.to0 H1) (by simp; omega) ?_
  intro w2 g1 c1 s1 H2 hm1 hc1 hg1
  refine ops_val (ex_assign rfl) ?_
  refine ops_nil ?_
  change Run _ _ _ _ [_, _, _, _, _, _, _, _, _, _, _, _, _, _, _, _, _, _, _, _, _, _] _
  refine run_seq ?_
  refine run_region ?_
  refine ops_val (ex_move rfl) ?_
  refine ops_val (ex_move rfl) ?_
  refine ops_val (ex_move rfl) ?_
  refine ops_buildSlice Try.underlying26 ty5 H2 (cs := u8s [m, m]) rfl (by decide) rfl ?_
  intro w3 gb H3 hgb
  change Ops _ _ _ _ _ _ [_, _, _, _, _, _, _, _, _, _, _, _, _, _, _, _, _, _, _, _, _, _] _
  refine ops_app8 Try.underlying26 ty5 H3 0 (L := [] ++ b) (M := [m, m]) rfl rfl hc1 hm1 hg1 rfl (H3.rd (i := 1) (o := some gb) (xs := u8s [m, m]) (sp := []) rfl rfl (by decide)) (by simp; omega) ?_
  intro w4 g2 c2 s2 H4 hm2 hc2 hg2
  refine ops_val (ex_assign rfl) ?_
  refine ops_nil ?_
  change Run _ _ _ _ [_, _, _, _, _, _, _, _, _, _, _, _, _, _, _, _, _, _, _, _, _, _] _
  refine run_seq ?_
  refine run_region ?_
  refine ops_val (ex_move rfl) ?_
  refine ops_val (ex_move rfl) ?_
  refine ops_val (ex_len_slice Try.underlying26 rfl) ?_
  refine ops_val (ex_cutHi Try.underlying26 ty5 rfl rfl (by simp at hm2; omega)) ?_
  change Ops _ _ _ _ _ _ [_, _, _, _, _, _, _, _, _, _, _, _, _, _, _, _, _, _, _, _, _, _] _
  refine ops_val (ex_assign rfl) ?_
  refine ops_nil ?_
  change Run _ _ _ _ [_, _, _, _, _, _, _, _, _, _, _, _, _, _, _, _, _, _, _, _, _, _] _
  refine run_ret ?_
  refine fin_ret1 rfl rfl ?_
  simp only [List.nil_append] at *
  exact ⟨g2, c2, s2, rfl, by simpa using hm2, hc2, H4.pick [0] (by decide)⟩
set_option maxRecDepth 100000 in
set_option maxHeartbeats 4000000 in
theorem kept_any (A B : Option Addr) (b : List UInt8) (c d : Nat) (m : UInt8) (w0 : World) (hrm : Rd w0 A (b ++ [m, m]).length 1 (u8s (b ++ [m, m]))) (hr : Rd w0 B b.length 1 (u8s b)) (hc : b.length + 2 ≤ c) (hb : b.length ≤ 211106232532900) :
    Does Try.prog 19 #[.slice A b.length c, .slice B b.length d, .int .u8 (m.toNat : Int)] w0 (fun r w' => r = .bool true ∧ Hp w0 w' [] []) := by
  refine does_of Try.func19 Try.ntmps19 rfl ?_
  change Run _ _ _ _ [.slice A b.length c, .slice B b.length d, .int .u8 (m.toNat : Int), undef, undef, undef, undef, undef, undef, undef, undef, undef, undef, undef, undef, undef, undef, undef, undef, undef, undef, undef, undef, undef, undef, undef, undef, undef, undef, undef, undef, undef, undef, undef, undef, undef, undef, undef, undef, undef, undef, undef, undef, undef, undef, undef, undef, undef] _
  have H := Hp.refl w0
  have hrb : Rd w0 A b.length 1 (u8s b) := by
    have := hrm.head (n := b.length) (by simp)
    simpa using this
  obtain ⟨a, rfl⟩ := hrm.some_ (by simp)
  refine run_seq ?_
  refine run_region ?_
  refine ops_val (ex_assign rfl) ?_
  refine ops_nil ?_
  change Run _ _ _ _ [_, _, _, _, _, _, _, _, _, _, _, _, _, _, _, _, _, _, _, _, _, _, _, _, _, _, _, _, _, _, _, _, _, _, _, _, _, _, _, _, _, _, _, _, _, _, _, _] _
  refine run_seq ?_
  refine run_seq ?_
  refine run_region ?_
  refine ops_val (ex_move rfl) ?_
  refine ops_val (ex_len_slice Try.underlying26 rfl) ?_
  refine ops_val (ex_move rfl) ?_
  refine ops_val (ex_len_slice Try.underlying26 rfl) ?_
  change Ops _ _ _ _ _ _ [_, _, _, _, _, _, _, _, _, _, _, _, _, _, _, _, _, _, _, _, _, _, _, _, _, _, _, _, _, _, _, _, _, _, _, _, _, _, _, _, _, _, _, _, _, _, _, _] _
  refine ops_false (ex_neq rfl rfl) (by simp) ?_
  refine ops_val (ex_move rfl) ?_
  change Ops _ _ _ _ _ _ [_, _, _, _, _, _, _, _, _, _, _, _, _, _, _, _, _, _, _, _, _, _, _, _, _, _, _, _, _, _, _, _, _, _, _, _, _, _, _, _, _, _, _, _, _, _, _, _] _
  refine ops_yes rfl ?_
  refine ops_val (ex_move rfl) ?_
  refine ops_yes rfl ?_
  refine ops_val (ex_cap_slice Try.underlying26 rfl) ?_
  change Ops _ _ _ _ _ _ [_, _, _, _, _, _, _, _, _, _, _, _, _, _, _, _, _, _, _, _, _, _, _, _, _, _, _, _, _, _, _, _, _, _, _, _, _, _, _, _, _, _, _, _, _, _, _, _] _
  refine ops_yes rfl ?_
  refine ops_val (ex_move rfl) ?_
  refine ops_yes rfl ?_
  refine ops_val (ex_len_slice Try.underlying26 rfl) ?_
  change Ops _ _ _ _ _ _ [_, _, _, _, _, _, _, _, _, _, _, _, _, _, _, _, _, _, _, _, _, _, _, _, _, _, _, _, _, _, _, _, _, _, _, _, _, _, _, _, _, _, _, _, _, _, _, _] _
  refine ops_yes rfl ?_
  refine ops_val (ex_add rfl rfl (IntWalk.i64_in _ (by omega))) ?_
  refine ops_yes rfl ?_
  refine ops_false (ex_lss rfl rfl) (by omega) ?_
  refine ops_val (ex_pick_f rfl rfl) ?_
  refine ops_nil ?_
  change Run _ _ _ _ [_, _, _, _, _, _, _, _, _, _, _, _, _, _, _, _, _, _, _, _, _, _, _, _, _, _, _, _, _, _, _, _, _, _, _, _, _, _, _, _, _, _, _, _, _, _, _, _] _
  refine run_cond_false rfl ?_
  refine run_skip ?_
  refine run_seq ?_
  refine run_region ?_
  refine ops_val (ex_move rfl) ?_
  refine ops_val (ex_move rfl) ?_
  refine ops_val (ex_len_slice Try.underlying26 rfl) ?_
  refine ops_val (ex_add rfl rfl (IntWalk.i64_in _ (by omega))) ?_
  change Ops _ _ _ _ _ _ [_, _, _, _, _, _, _, _, _, _, _, _, _, _, _, _, _, _, _, _, _, _, _, _, _, _, _, _, _, _, _, _, _, _, _, _, _, _, _, _, _, _, _, _, _, _, _, _] _
  refine ops_val (ex_cutHi Try.underlying26 ty5 rfl rfl (by omega)) ?_
  refine ops_val (ex_assign rfl) ?_
  refine ops_nil ?_
  change Run _ _ _ _ [_, _, _, _, _, _, _, _, _, _, _, _, _, _, _, _, _, _, _, _, _, _, _, _, _, _, _, _, _, _, _, _, _, _, _, _, _, _, _, _, _, _, _, _, _, _, _, _] _
  refine run_seq ?_
  refine run_region ?_
  refine ops_val (ex_move rfl) ?_
  refine ops_val (ex_move rfl) ?_
  have hk := plain_any (some a) B b b c d _ (hrb.to0 H) (hr.to0 H) (by omega) (by omega)
  rw [decide_eq_true rfl] at hk
  refine ops_call_val (ex_call gf47 rfl) hk ?_
  intro w1 Hd
  have H1 := H.call0 Hd
  refine ops_val (ex_move rfl) ?_
  change Ops _ _ _ _ _ _ [_, _, _, _, _, _, _, _, _, _, _, _, _, _, _, _, _, _, _, _, _, _, _, _, _, _, _, _, _, _, _, _, _, _, _, _, _, _, _, _, _, _, _, _, _, _, _, _] _
  refine ops_yes rfl ?_
  refine ops_val (ex_move rfl) ?_
  refine ops_yes rfl ?_
  refine ops_val (ex_move rfl) ?_
  change Ops _ _ _ _ _ _ [_, _, _, _, _, _, _, _, _, _, _, _, _, _, _, _, _, _, _, _, _, _, _, _, _, _, _, _, _, _, _, _, _, _, _, _, _, _, _, _, _, _, _, _, _, _, _, _] _
  refine ops_yes rfl ?_
  refine ops_val (ex_len_slice Try.underlying26 rfl) ?_
  refine ops_yes rfl ?_
  refine ops_val (ex_idx Try.underlying26 ty5 rfl rfl (i := b.length) rfl (by omega) (Nat.mul_one _)) ?_
  change Ops _ _ _ _ _ _ [_, _, _, _, _, _, _, _, _, _, _, _, _, _, _, _, _, _, _, _, _, _, _, _, _, _, _, _, _, _, _, _, _, _, _, _, _, _, _, _, _, _, _, _, _, _, _, _] _
  refine ops_yes rfl ?_
  refine ops_val (ex_load ty5 rfl ((hrm.to0 H1).cells a rfl b.length (.int .u8 (m.toNat : Int)) (by simp [u8s]))) ?_
  refine ops_yes rfl ?_
  refine ops_val (ex_move rfl) ?_
  change Ops _ _ _ _ _ _ [_, _, _, _, _, _, _, _, _, _, _, _, _, _, _, _, _, _, _, _, _, _, _, _, _, _, _, _, _, _, _, _, _, _, _, _, _, _, _, _, _, _, _, _, _, _, _, _] _
  refine ops_yes rfl ?_
  refine ops_true (ex_eql rfl rfl) (rfl) ?_
  refine ops_val (ex_pick_t rfl rfl) ?_
  refine ops_val (ex_move rfl) ?_
  change Ops _ _ _ _ _ _ [_, _, _, _, _, _, _, _, _, _, _, _, _, _, _, _, _, _, _, _, _, _, _, _, _, _, _, _, _, _, _, _, _, _, _, _, _, _, _, _, _, _, _, _, _, _, _, _] _
  refine ops_yes rfl ?_
  refine ops_val (ex_move rfl) ?_
  refine ops_yes rfl ?_
  refine ops_val (ex_move rfl) ?_
  change Ops _ _ _ _ _ _ [_, _, _, _, _, _, _, _, _, _, _, _, _, _, _, _, _, _, _, _, _, _, _, _, _, _, _, _, _, _, _, _, _, _, _, _, _, _, _, _, _, _, _, _, _, _, _, _] _
  refine ops_yes rfl ?_
  refine ops_val (ex_len_slice Try.underlying26 rfl) ?_
  refine ops_yes rfl ?_
  refine ops_val (ex_add rfl rfl ((IntWalk.i64_in _ (by omega)).trans (show ((b.length : Int) + 1) = ((b.length + 1 : Nat) : Int) by omega))) ?_
  change Ops _ _ _ _ _ _ [_, _, _, _, _, _, _, _, _, _, _, _, _, _, _, _, _, _, _, _, _, _, _, _, _, _, _, _, _, _, _, _, _, _, _, _, _, _, _, _, _, _, _, _, _, _, _, _] _
  refine ops_yes rfl ?_
  refine ops_val (ex_idx Try.underlying26 ty5 rfl rfl (i := b.length + 1) rfl (by omega) (Nat.mul_one _)) ?_
  refine ops_yes rfl ?_
  refine ops_val (ex_load ty5 rfl ((hrm.to0 H1).cells a rfl (b.length + 1) (.int .u8 (m.toNat : Int)) (by simp [u8s]))) ?_
  change Ops _ _ _ _ _ _ [_, _, _, _, _, _, _, _, _, _, _, _, _, _, _, _, _, _, _, _, _, _, _, _, _, _, _, _, _, _, _, _, _, _, _, _, _, _, _, _, _, _, _, _, _, _, _, _] _
  refine ops_yes rfl ?_
  refine ops_val (ex_move rfl) ?_
  refine ops_yes rfl ?_
  refine ops_true (ex_eql rfl rfl) (rfl) ?_
  refine ops_val (ex_pick_t rfl rfl) ?_
  refine ops_val (ex_assign rfl) ?_
  refine ops_nil ?_
  change Run _ _ _ _ [_, _, _, _, _, _, _, _, _, _, _, _, _, _, _, _, _, _, _, _, _, _, _, _, _, _, _, _, _, _, _, _, _, _, _, _, _, _, _, _, _, _, _, _, _, _, _, _] _
  refine run_ret ?_
  refine fin_ret1 rfl rfl ?_
  exact ⟨rfl, H1.pick [] (by decide)⟩
end Go.Proofs.Ytoeobicpdeklaaa
