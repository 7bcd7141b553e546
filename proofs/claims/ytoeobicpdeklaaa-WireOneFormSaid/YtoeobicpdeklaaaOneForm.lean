/- WireOneForm: whatever the input, the law answers true, and its input stands. -/
import Derived.Test.YtoeobicpdeklaaaWireS
import Derived.Test.YtoeobicpdeklaaaIn
import Derived.Test.YtoeobicpdeklaaaRows
import Derived.WalkKit
import Derived.ProofKit
import Derived.OpenShut
import Derived.Carry
import Derived.SizedLaws
namespace Go.Proofs.Ytoeobicpdeklaaa.wireOneForm
open Go.ChangeShapes Go.WideShapes Go.ChangeAt Go.RowKit
set_option linter.unusedVariables false
theorem own : ownKnob Try.prog.godebug = none := by kernel_rfl
theorem laidOut : laidOutB Try.prog = true := by kernel_rfl
theorem walk (w : World) (a0 : Option Addr) (b0 : List UInt8) (c0 : Nat) (w0 : Rd w a0 b0.length 1 (u8s b0)) (m0 : b0.length ≤ 140737488351232) (lc0 : b0.length ≤ c0) :
    Calls Try.prog 9 #[.slice a0 b0.length c0] w fun e w' => e = .returned (.bool true) ∧ Below w.heap.size w w' := by
  have fin : ∀ {e : Ending} {w' : World}, (∃ v, e = .returned v ∧ v = .bool true ∧ Hp w w' [] []) → e = .returned (.bool true) ∧ Below w.heap.size w w' := fun ⟨v, he, hv, H⟩ => ⟨by rw [he, hv], H.below⟩
  have h := wireOneForm_any a0 b0 c0 w w0 m0
  unfold Does at h
  exact h.mono fun e w' hh => fin hh
set_option maxRecDepth 100000 in
theorem lifted (os : Os) (started : os.Started) (H : Type) (enc : TypeId × Value → H) :
    ReturnsInHanded {} Try.checked os 9 .any (Rows.wireOneFormSpec.pre6 enc Try.prog Try.f9 Rows.wireOneFormRow.domain false) (Rows.wireOneFormSpec.post enc Try.prog Try.f9 false true false false) := by
  refine returnsInHanded_of_change_sized (C := Try.checked) own started (by kernel_rfl) Try.func9
    (ChangeSpec.witness6 (enc := enc) (C := Try.checked) false ⟨#[], #[.slice none 0 0], []⟩ 8 (by kernel_rfl) (by kernel_rfl) (by kernel_rfl) (by kernel_rfl)) ?_
  intro W base args ds gs before hval0 hW hcnd hsz0 _
  have hval : ∀ (j : Nat) t v, Try.f9.params[j]? = some t → args[j]? = some v → Value.okWide Try.prog W .any base t v := hval0
  have hsz : (DataW.weightsEach Try.prog (Try.f9.params.toList ++ Rows.wireOneFormSpec.plain.varTypes Try.prog) (ds ++ gs)).all (· ≤ reachBytes) = true := hsz0
  have hW' := hW
  obtain ⟨p, q, hA0, hV, rfl, hfz, hnd⟩ := hW
  have hA : DataW.TrodAll enc Try.prog W 0 (fun _ => true) true Try.f9.params.toList args.toList ds p := hA0
  rw [Try.params9] at hA hval hsz
  obtain ⟨v0, vs0, d0, ds0, p0, q0, hargs, rfl, rfl, h0, r0⟩ := trodAll_cons hA
  obtain ⟨rfl, rfl, rfl⟩ := trodAll_nil r0
  obtain rfl : args = #[v0] := by cases args; simp_all
  obtain ⟨rfl, rfl⟩ := trodVars_none hV
  have k0 := h0
  have lt0 : ∀ x ∈ p0, x.block < W.heap.size := by obtain ⟨m, hm⟩ := k0; exact DataW.trod_lt m _ _ _ hm
  obtain ⟨a0, b0, c0, rfl, w0, lc0, s0⟩ := bytes_in Try.underlying26 Try.underlying5 (by kernel_rfl) (hval 0 26 v0 rfl rfl) h0
  have m0 := bytes_most hsz (j := 0) rfl rfl Try.underlying26 (by kernel_rfl) s0
  clear hA0 hval0
  refine (walk W a0 b0 c0 w0 m0 lc0).mono fun e W' ⟨he, bel⟩ => ?_
  subst he
  exact ⟨_, rfl, _, _, _, [], _, [], hW', trodAll_mk1 (shut_bool Try.underlying4 _), (trodAll_cons_mk (Below.trod laidOut (by kernel_rfl) (of_decide_eq_true (by kernel_rfl)) k0 bel lt0) (trodAll_mk0)), rfl, bel.frame _, fun h => by cases h⟩

theorem over : Rows.wireOneFormRow.holds Try.pinned (OpenSpec.ofChange Rows.wireOneFormSpec) :=
  OpenClaim.holds_of_wide 9 Try.f9 rfl rfl rfl rfl rfl rfl rfl ⟨rfl, rfl, rfl, rfl, rfl⟩ rfl rfl rfl rfl rfl (by kernel_rfl) Try.func9 (by kernel_rfl)
    (of_decide_eq_true (by kernel_rfl)) (by unfold Func.isWrapper; first | (rw [if_pos (by decide +kernel)]; kernel_rfl) | (rw [if_neg (by decide +kernel)]; exact ⟨rfl, rfl⟩))
    (fun os started H enc _ => lifted os started H enc)
theorem proved : Rows.WireOneFormSaid := over
end Go.Proofs.Ytoeobicpdeklaaa.wireOneForm
