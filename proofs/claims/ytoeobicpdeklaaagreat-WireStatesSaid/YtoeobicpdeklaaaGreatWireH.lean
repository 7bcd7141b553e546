/- Walks of layer 2, printed by wip/gen/codec.py. -/
import Derived.Test.YtoeobicpdeklaaaGreatWireG
import Derived.Test.YtoeobicpdeklaaaGreatWireE
namespace Go.Proofs.YtoeobicpdeklaaaGreat
open Go Go.RowKit
set_option linter.unusedVariables false
attribute [local irreducible] Still Ops Does Cd
set_option maxRecDepth 100000 in
set_option maxHeartbeats 4000000 in
theorem ccommand_w (gp : Nat) (g : Option Nat) (cap : Nat) (sp : List Value) (st : WS) (a : Addr) (x : thcommand.X) (vs : List Value) (w0 : World) (H0 : Hp w0 w0 (bl (pw gp g cap sp st)) (pw gp g cap sp st)) (hP : POk 65536 g cap sp st) (hM : thcommand.M w0 (fun b => b ∉ bl (pw gp g cap sp st)) x vs) (hC : Cl w0 (bl (pw gp g cap sp st)) a vs) :
    Does Tryz.prog 59 #[.pointer (some ⟨gp, 0, none⟩), .pointer (some a)] w0 (fun _ w' => PwOut gp (wAll (thcommand.fl x) st) w0 (bl (pw gp g cap sp st)) w') := by
  refine does_of Tryz.func59 Tryz.ntmps59 rfl ?_
  change Run _ _ _ _ [.pointer (some ⟨gp, 0, none⟩), .pointer (some a), undef, undef, undef] _
  skip
  refine run_region ?_
  refine ops_val (ex_move rfl) ?_
  refine ops_call (ex_call gf60 rfl) (pcommand_W gp g cap sp st a x vs w0 H0 hP hM hC (fun h => by cases h)) ?_
  rintro _ w1 hq
  refine ops_nil ?_
  change Run _ _ _ _ [_, _, _, _, _] _
  refine run_nil ?_
  refine fin_end0 rfl ?_
  exact hq
set_option maxRecDepth 100000 in
set_option maxHeartbeats 4000000 in
theorem command_wr (x : thcommand.X) (cells : List Value) (w0 : World) (hM : thcommand.M w0 (fun _ => True) x cells) :
    Does Tryz.prog 22 #[.agg cells.toArray] w0 (fun r w' => WrRes w0 w' r (wAll (thcommand.fl x) W0)) := by
  refine does_of Tryz.func22 Tryz.ntmps22 rfl ?_
  change Run _ _ _ _ [.agg cells.toArray, undef, undef, undef, undef, undef, undef, undef] _
  have hlen : cells.length = 25 := thcommand.len hM
  have H := Hp.refl w0
  refine run_seq ?_
  refine run_region ?_
  refine ops_box rfl rfl H ?_
  intro w1 g1 H1 hg1
  refine ops_val (ex_assign rfl) ?_
  refine ops_val (ex_assign rfl) ?_
  refine ops_nil ?_
  change Run _ _ _ _ [_, _, _, _, _, _, _, _] _
  refine run_seq ?_
  refine run_region ?_
  refine ops_val (ex_makeFunc rfl rfl) ?_
  refine ops_call_wr (ex_call gf12 rfl) (written_any (thcommand.fl x) 59 [.pointer (some ⟨g1, 0, none⟩)] _ gf59 fun gp w2 HP => ?_) ?_
  · have hM1 := thcommand.to hM H1 (fun _ _ => by simp)
    have hM2 := thcommand.to hM1 HP (fun _ _ => by simp)
    exact ccommand_w gp none 0 [] W0 ⟨g1, 0, none⟩ x cells w2 HP.here ⟨Nat.le_refl _, Nat.le_refl _, fun _ => rfl, Nat.zero_le _⟩ (thcommand.mono hM2 fun _ h => h.2) ((H1.cl (i := 0) (S' := []) rfl (by simp)).to HP)
  intro w2 g cap sp q1 q2 q3 q4 Hd
  have H2 := H1.call0 Hd
  refine ops_val (ex_extract rfl rfl) ?_
  refine ops_val (ex_extract rfl rfl) ?_
  change Ops _ _ _ _ _ _ [_, _, _, _, _, _, _, _] _
  refine ops_val (ex_assign rfl) ?_
  refine ops_val (ex_assign rfl) ?_
  refine ops_nil ?_
  change Run _ _ _ _ [_, _, _, _, _, _, _, _] _
  refine run_ret ?_
  refine fin_ret2 rfl rfl rfl ?_
  exact ⟨g, cap, sp, rfl, q1, q2, q3, q4, H2.pick [1] (by decide)⟩
end Go.Proofs.YtoeobicpdeklaaaGreat
