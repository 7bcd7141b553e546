/- Walks of layer 2, printed by wip/gen/codec.py. -/
import Derived.Test.YtlglenbmpikhmaaDoorCodecC
namespace Go.Proofs.YtlglenbmpikhmaaDoor
open Go Go.RowKit
set_option linter.unusedVariables false
attribute [local irreducible] Still Ops Does Cd
set_option maxRecDepth 100000 in
set_option maxHeartbeats 4000000 in
theorem awake_any (w0 : World) :
    Does Tryd.prog 10 #[] w0 (fun r w' => r = .bool true ∧ Hp w0 w' [] []) := by
  refine does_of Tryd.func10 Tryd.ntmps10 rfl ?_
  change Run _ _ _ _ [undef, undef, undef, undef, undef, undef, undef, undef, undef, undef, undef, undef, undef, undef, undef, undef, undef, undef, undef, undef, undef] _
  have H := Hp.refl w0
  refine run_seq ?_
  refine run_region ?_
  refine ops_val (ex_assign rfl) ?_
  refine ops_nil ?_
  change Run _ _ _ _ [_, _, _, _, _, _, _, _, _, _, _, _, _, _, _, _, _, _, _, _, _] _
  refine run_seq ?_
  refine run_region ?_
  refine ops_buildSlice Tryd.underlying22 ty5 H rfl (by decide) rfl ?_
  intro w1 g1 H1 hg1
  refine ops_new (ex_call gf27 rfl) (new_any _ [5] _ _ (H1.rd (i := 0) (o := some g1) (xs := u8s [5]) (sp := []) rfl rfl (by decide)) (by decide)) ?_
  intro w2 gr g cp sp hc1 hc2 hc3 Hc
  have H2 := (H1.call0 Hc).pick [1, 2] (by decide)
  have hR := rdr_of H2 (j := 0) (k := 1) rfl rfl (by decide) hc1 (by decide) (Nat.zero_le _)
  refine ops_val (ex_assign rfl) ?_
  refine ops_nil ?_
  change Run _ _ _ _ [_, _, _, _, _, _, _, _, _, _, _, _, _, _, _, _, _, _, _, _, _] _
  refine run_seq ?_
  refine run_region ?_
  refine ops_val (ex_move rfl) ?_
  refine ops_true (ex_neq_nil_ptr Tryd.underlying44 rfl) (by simp) ?_
  refine ops_val (ex_move rfl) ?_
  change Ops _ _ _ _ _ _ [_, _, _, _, _, _, _, _, _, _, _, _, _, _, _, _, _, _, _, _, _] _
  refine ops_yes rfl ?_
  refine ops_val (ex_move rfl) ?_
  refine ops_yes rfl ?_
  have hn := num_rd gr _ _ [5] 0 0 _ hR
  rw [numStep_5] at hn
  refine ops_call_val (ex_call gf28 rfl) hn ?_
  intro w3 Hd
  have H3 := (H2.call1 (i := 0) rfl Hd).pick [2, 1] (by decide)
  have hR2 := hR.next Hd (by decide)
  change Ops _ _ _ _ _ _ [_, _, _, _, _, _, _, _, _, _, _, _, _, _, _, _, _, _, _, _, _] _
  refine ops_yes rfl ?_
  refine ops_true (ex_eql rfl rfl) (rfl) ?_
  refine ops_val (ex_pick_t rfl rfl) ?_
  refine ops_val (ex_move rfl) ?_
  change Ops _ _ _ _ _ _ [_, _, _, _, _, _, _, _, _, _, _, _, _, _, _, _, _, _, _, _, _] _
  refine ops_yes rfl ?_
  refine ops_val (ex_move rfl) ?_
  refine ops_yes rfl ?_
  have hn := end_rd gr _ _ [5] 1 0 _ hR2
  rw [if_neg (by decide)] at hn
  refine ops_call_val (ex_call gf29 rfl) hn ?_
  intro w4 Hd
  have H4 := H3.call0 Hd
  change Ops _ _ _ _ _ _ [_, _, _, _, _, _, _, _, _, _, _, _, _, _, _, _, _, _, _, _, _] _
  refine ops_yes rfl ?_
  refine ops_true (ex_eql rfl rfl) (rfl) ?_
  refine ops_val (ex_pick_t rfl rfl) ?_
  refine ops_val (ex_move rfl) ?_
  change Ops _ _ _ _ _ _ [_, _, _, _, _, _, _, _, _, _, _, _, _, _, _, _, _, _, _, _, _] _
  refine ops_yes rfl ?_
  refine ops_call_own (ex_call gf15 rfl) (num_any 300 _ (by decide)) ?_
  intro w5 g9 c9 sp9 hm9 hc9 hg9 Hd
  have H5 := H4.call0 Hd
  refine ops_yes rfl ?_
  refine ops_val (ex_len_slice Tryd.underlying22 rfl) ?_
  change Ops _ _ _ _ _ _ [_, _, _, _, _, _, _, _, _, _, _, _, _, _, _, _, _, _, _, _, _] _
  refine ops_yes rfl ?_
  refine ops_true (ex_eql rfl rfl) (by rw [enc_300]; rfl) ?_
  refine ops_val (ex_pick_t rfl rfl) ?_
  refine ops_val (ex_assign rfl) ?_
  refine ops_nil ?_
  change Run _ _ _ _ [_, _, _, _, _, _, _, _, _, _, _, _, _, _, _, _, _, _, _, _, _] _
  refine run_ret ?_
  refine fin_ret1 rfl rfl ?_
  exact ⟨rfl, H5.pick [] (by decide)⟩
end Go.Proofs.YtlglenbmpikhmaaDoor
