/- Walks of layer 2, printed by wip/gen/codec.py. -/
import Derived.Test.YtoeobicpdeklaaaGet
import Derived.Test.YtoeobicpdeklaaaWireT
namespace Go.Proofs.Ytoeobicpdeklaaa
open Go Go.RowKit
set_option linter.unusedVariables false
attribute [local irreducible] Still Ops Does Cd
theorem lay42 : lay Try.prog 6 42 [.int, .int] = true := by kernel_rfl
theorem agg42 : aggT Try.prog 42 = true := by kernel_rfl
theorem eqg42 : Try.prog.eqGuardType Try.prog.depth 42 = false := by kernel_rfl
theorem lay23 : lay Try.prog 6 23 [.int, .text, .text, .int, .int, .int] = true := by kernel_rfl
theorem agg23 : aggT Try.prog 23 = true := by kernel_rfl
theorem eqg23 : Try.prog.eqGuardType Try.prog.depth 23 = false := by kernel_rfl
theorem lay25 : lay Try.prog 6 25 [.int, .int, .int, .text, .text, .int, .int] = true := by kernel_rfl
theorem agg25 : aggT Try.prog 25 = true := by kernel_rfl
theorem eqg25 : Try.prog.eqGuardType Try.prog.depth 25 = false := by kernel_rfl
theorem lay48 : lay Try.prog 6 48 [.int, .text, .int, .int] = true := by kernel_rfl
theorem agg48 : aggT Try.prog 48 = true := by kernel_rfl
theorem eqg48 : Try.prog.eqGuardType Try.prog.depth 48 = false := by kernel_rfl
set_option maxRecDepth 100000 in
set_option maxHeartbeats 4000000 in
theorem svote_any (x : List Fv) (c1 c2 : List Value) (ok1 ok2 : Nat → Prop) (w0 : World) (hM1 : thvote.M w0 ok1 x c1) (hM2 : thvote.M w0 ok2 x c2) (hsh : Short x) :
    Does Try.prog 52 #[.agg c1.toArray, .agg c2.toArray] w0 (fun r w' => r = .bool true ∧ Hp w0 w' [] []) := by
  refine does_of Try.func52 Try.ntmps52 rfl ?_
  change Run _ _ _ _ [.agg c1.toArray, .agg c2.toArray, undef, undef, undef, undef, undef, undef, undef, undef, undef, undef, undef, undef, undef, undef, undef, undef, undef, undef, undef, undef, undef, undef] _
  have H := Hp.refl w0
  have hl1 := thvote.len hM1
  have hl2 := thvote.len hM2
  obtain ⟨n0, hx0, hv0, _, _⟩ := get_int hM1 0 rfl
  have hu0 := and_int hM2 hx0
  have hp1 := plain_one (Th.part hM1 1 2) (Th.part hM2 1 2) rfl
  have hl101 := part_len hM1 (k := 1) (n := 2) (by decide)
  obtain ⟨n3, B3, k3, hx3, hv3, hr3, _⟩ := get_bytes hM1 3 rfl
  obtain ⟨C3, j3, hu3, hq3, _⟩ := and_bytes hM2 hx3
  have hs3 := hsh.get hx3
  refine run_seq ?_
  refine run_region ?_
  refine ops_box rfl rfl H ?_
  intro w1 g1 H1 hg1
  refine ops_box rfl rfl H1 ?_
  intro w2 g2 H2 hg2
  refine ops_val (ex_assign rfl) ?_
  refine ops_nil ?_
  change Run _ _ _ _ [_, _, _, _, _, _, _, _, _, _, _, _, _, _, _, _, _, _, _, _, _, _, _, _] _
  refine run_seq ?_
  refine run_region ?_
  refine ops_val (ex_fieldAddr fl44_0 rfl) ?_
  refine ops_val (ex_load ty3 rfl (H2.cell (i := 0) rfl hv0)) ?_
  refine ops_val (ex_fieldAddr fl44_0 rfl) ?_
  refine ops_val (ex_load ty3 rfl (H2.cell (i := 1) rfl hu0)) ?_
  change Ops _ _ _ _ _ _ [_, _, _, _, _, _, _, _, _, _, _, _, _, _, _, _, _, _, _, _, _, _, _, _] _
  refine ops_true (ex_eql rfl rfl) (rfl) ?_
  refine ops_val (ex_move rfl) ?_
  change Ops _ _ _ _ _ _ [_, _, _, _, _, _, _, _, _, _, _, _, _, _, _, _, _, _, _, _, _, _, _, _] _
  refine ops_yes rfl ?_
  refine ops_val (ex_fieldAddr fl44_1 rfl) ?_
  refine ops_yes rfl ?_
  refine ops_val (ex_loadN ty42 rfl (vs := (c1.drop 1).take 2) hl101 (H2.cellsAt (i := 0) rfl (At.sub c1 1 2))) ?_
  change Ops _ _ _ _ _ _ [_, _, _, _, _, _, _, _, _, _, _, _, _, _, _, _, _, _, _, _, _, _, _, _] _
  refine ops_yes rfl ?_
  refine ops_val (ex_fieldAddr fl44_1 rfl) ?_
  refine ops_yes rfl ?_
  refine ops_val (ex_loadN ty42 rfl (vs := (c1.drop 1).take 2) hl101 (by rw [← hp1]; exact H2.cellsAt (i := 1) rfl (At.sub c2 1 2))) ?_
  change Ops _ _ _ _ _ _ [_, _, _, _, _, _, _, _, _, _, _, _, _, _, _, _, _, _, _, _, _, _, _, _] _
  refine ops_yes rfl ?_
  refine ops_val (ex_eql_same lay42 (by decide) rfl agg42 eqg42 (Th.part hM1 1 2) rfl rfl) ?_
  refine ops_val (ex_pick_t rfl rfl) ?_
  refine ops_val (ex_move rfl) ?_
  change Ops _ _ _ _ _ _ [_, _, _, _, _, _, _, _, _, _, _, _, _, _, _, _, _, _, _, _, _, _, _, _] _
  refine ops_yes rfl ?_
  refine ops_val (ex_fieldAddr fl44_2 rfl) ?_
  refine ops_yes rfl ?_
  refine ops_val (ex_load ty26 rfl (H2.cell (i := 0) rfl hv3)) ?_
  change Ops _ _ _ _ _ _ [_, _, _, _, _, _, _, _, _, _, _, _, _, _, _, _, _, _, _, _, _, _, _, _] _
  refine ops_yes rfl ?_
  refine ops_val (ex_fieldAddr fl44_2 rfl) ?_
  refine ops_yes rfl ?_
  refine ops_val (ex_load ty26 rfl (H2.cell (i := 1) rfl hu3)) ?_
  change Ops _ _ _ _ _ _ [_, _, _, _, _, _, _, _, _, _, _, _, _, _, _, _, _, _, _, _, _, _, _, _] _
  refine ops_yes rfl ?_
  have hk := bytes_any B3 C3 n3 n3 k3 j3 _ (hr3.to0 H2) (hq3.to0 H2) (by omega) (by omega)
  rw [decide_eq_true rfl] at hk
  refine ops_call_val (ex_call gf16 rfl) hk ?_
  intro w3 Hd
  have H3 := H2.call0 Hd
  refine ops_val (ex_pick_t rfl rfl) ?_
  refine ops_val (ex_assign rfl) ?_
  refine ops_nil ?_
  change Run _ _ _ _ [_, _, _, _, _, _, _, _, _, _, _, _, _, _, _, _, _, _, _, _, _, _, _, _] _
  refine run_ret ?_
  refine fin_ret1 rfl rfl ?_
  exact ⟨rfl, H3.pick [] (by decide)⟩
set_option maxRecDepth 100000 in
set_option maxHeartbeats 4000000 in
theorem sentry_any (x : List Fv) (c1 c2 : List Value) (ok1 ok2 : Nat → Prop) (w0 : World) (hM1 : thentry.M w0 ok1 x c1) (hM2 : thentry.M w0 ok2 x c2) (hsh : Short x) :
    Does Try.prog 53 #[.agg c1.toArray, .agg c2.toArray] w0 (fun r w' => r = .bool true ∧ Hp w0 w' [] []) := by
  refine does_of Try.func53 Try.ntmps53 rfl ?_
  change Run _ _ _ _ [.agg c1.toArray, .agg c2.toArray, undef, undef, undef, undef, undef, undef, undef, undef, undef, undef, undef, undef, undef, undef, undef] _
  have H := Hp.refl w0
  have hl1 := thentry.len hM1
  have hl2 := thentry.len hM2
  obtain ⟨n0, hx0, hv0, _, _⟩ := get_int hM1 0 rfl
  have hu0 := and_int hM2 hx0
  obtain ⟨n1, B1, k1, hx1, hv1, hr1, _⟩ := get_bytes hM1 1 rfl
  obtain ⟨C1, j1, hu1, hq1, _⟩ := and_bytes hM2 hx1
  have hs1 := hsh.get hx1
  refine run_seq ?_
  refine run_region ?_
  refine ops_box rfl rfl H ?_
  intro w1 g1 H1 hg1
  refine ops_box rfl rfl H1 ?_
  intro w2 g2 H2 hg2
  refine ops_val (ex_assign rfl) ?_
  refine ops_nil ?_
  change Run _ _ _ _ [_, _, _, _, _, _, _, _, _, _, _, _, _, _, _, _, _] _
  refine run_seq ?_
  refine run_region ?_
  refine ops_val (ex_fieldAddr fl46_0 rfl) ?_
  refine ops_val (ex_load ty3 rfl (H2.cell (i := 0) rfl hv0)) ?_
  refine ops_val (ex_fieldAddr fl46_0 rfl) ?_
  refine ops_val (ex_load ty3 rfl (H2.cell (i := 1) rfl hu0)) ?_
  change Ops _ _ _ _ _ _ [_, _, _, _, _, _, _, _, _, _, _, _, _, _, _, _, _] _
  refine ops_true (ex_eql rfl rfl) (rfl) ?_
  refine ops_val (ex_move rfl) ?_
  change Ops _ _ _ _ _ _ [_, _, _, _, _, _, _, _, _, _, _, _, _, _, _, _, _] _
  refine ops_yes rfl ?_
  refine ops_val (ex_fieldAddr fl46_1 rfl) ?_
  refine ops_yes rfl ?_
  refine ops_val (ex_load ty26 rfl (H2.cell (i := 0) rfl hv1)) ?_
  change Ops _ _ _ _ _ _ [_, _, _, _, _, _, _, _, _, _, _, _, _, _, _, _, _] _
  refine ops_yes rfl ?_
  refine ops_val (ex_fieldAddr fl46_1 rfl) ?_
  refine ops_yes rfl ?_
  refine ops_val (ex_load ty26 rfl (H2.cell (i := 1) rfl hu1)) ?_
  change Ops _ _ _ _ _ _ [_, _, _, _, _, _, _, _, _, _, _, _, _, _, _, _, _] _
  refine ops_yes rfl ?_
  have hk := bytes_any B1 C1 n1 n1 k1 j1 _ (hr1.to0 H2) (hq1.to0 H2) (by omega) (by omega)
  rw [decide_eq_true rfl] at hk
  refine ops_call_val (ex_call gf16 rfl) hk ?_
  intro w3 Hd
  have H3 := H2.call0 Hd
  refine ops_val (ex_pick_t rfl rfl) ?_
  refine ops_val (ex_assign rfl) ?_
  refine ops_nil ?_
  change Run _ _ _ _ [_, _, _, _, _, _, _, _, _, _, _, _, _, _, _, _, _] _
  refine run_ret ?_
  refine fin_ret1 rfl rfl ?_
  exact ⟨rfl, H3.pick [] (by decide)⟩
end Go.Proofs.Ytoeobicpdeklaaa
