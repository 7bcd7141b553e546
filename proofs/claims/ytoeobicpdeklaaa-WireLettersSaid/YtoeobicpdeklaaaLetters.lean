/- WireLetters: whatever the input, the law answers true, and its input stands. -/
import Derived.Test.YtoeobicpdeklaaaWireY5
import Derived.Test.YtoeobicpdeklaaaWireY6
import Derived.Test.YtoeobicpdeklaaaIn
import Derived.Test.YtoeobicpdeklaaaRows
import Derived.WalkKit
import Derived.ProofKit
import Derived.OpenShut
import Derived.Carry
import Derived.SizedLaws
namespace Go.Proofs.Ytoeobicpdeklaaa.wireLetters
open Go.ChangeShapes Go.WideShapes Go.ChangeAt Go.RowKit
set_option linter.unusedVariables false
theorem own : ownKnob Try.prog.godebug = none := by kernel_rfl
theorem laidOut : laidOutB Try.prog = true := by kernel_rfl
theorem walk (w : World) (a0 : Int) (w0 : (Lit.int .i64 a0).wf = true) (x1 : thletter.X) (a1 : List Value) (w1 : thletter.M w (fun _ => True) x1 a1) (s1 : Short (thletter.fl x1)) (z1 : X_letter x1) (a2 : Option Addr) (b2 : List UInt8) (c2 : Nat) (w2 : Rd w a2 b2.length 1 (u8s b2)) (m2 : b2.length ≤ 140737488351232) (lc2 : b2.length ≤ c2) :
    Calls Try.prog 7 #[.int .i64 a0, .agg a1.toArray, .slice a2 b2.length c2] w fun e w' => e = .returned (.bool true) ∧ Below w.heap.size w w' := by
  have fin : ∀ {e : Ending} {w' : World}, (∃ v, e = .returned v ∧ v = .bool true ∧ Hp w w' [] []) → e = .returned (.bool true) ∧ Below w.heap.size w w' := fun ⟨v, he, hv, H⟩ => ⟨by rw [he, hv], H.below⟩
  have h := wireLetters_any a0 x1 a1 a2 b2 c2 w (wf64 w0) w1 w2 m2
  unfold Does at h
  exact h.mono fun e w' hh => fin hh
set_option maxRecDepth 100000 in
theorem lifted (os : Os) (started : os.Started) (H : Type) (enc : TypeId × Value → H) :
    ReturnsInHanded {} Try.checked os 7 .any (Rows.wireLettersSpec.pre6 enc Try.prog Try.f7 Rows.wireLettersRow.domain false) (Rows.wireLettersSpec.post enc Try.prog Try.f7 false true false false) := by
  refine returnsInHanded_of_change_sized (C := Try.checked) own started (by kernel_rfl) Try.func7
    (ChangeSpec.witness6 (enc := enc) (C := Try.checked) false ⟨#[], #[.int .i64 0, .agg #[.int .i64 0, .int .i64 0, .int .i64 0, .int .i64 0, .int .i64 0, .int .i64 0, .int .i64 0, .slice none 0 0, .slice none 0 0, .int .i64 0, .int .i64 0, .int .u32 0, .slice none 0 0], .slice none 0 0], []⟩ 8 (by kernel_rfl) (by kernel_rfl) (by kernel_rfl) (by kernel_rfl)) ?_
  intro W base args ds gs before hval0 hW hcnd hsz0 _
  have hval : ∀ (j : Nat) t v, Try.f7.params[j]? = some t → args[j]? = some v → Value.okWide Try.prog W .any base t v := hval0
  have hsz : (DataW.weightsEach Try.prog (Try.f7.params.toList ++ Rows.wireLettersSpec.plain.varTypes Try.prog) (ds ++ gs)).all (· ≤ reachBytes) = true := hsz0
  have hW' := hW
  obtain ⟨p, q, hA0, hV, rfl, hfz, hnd⟩ := hW
  have hA : DataW.TrodAll enc Try.prog W 0 (fun _ => true) true Try.f7.params.toList args.toList ds p := hA0
  rw [Try.params7] at hA hval hsz
  obtain ⟨v0, vs0, d0, ds0, p0, q0, hargs, rfl, rfl, h0, r0⟩ := trodAll_cons hA
  obtain ⟨v1, vs1, d1, ds1, p1, q1, rfl, rfl, rfl, h1, r1⟩ := trodAll_cons r0
  obtain ⟨v2, vs2, d2, ds2, p2, q2, rfl, rfl, rfl, h2, r2⟩ := trodAll_cons r1
  obtain ⟨rfl, rfl, rfl⟩ := trodAll_nil r2
  obtain rfl : args = #[v0, v1, v2] := by cases args; simp_all
  obtain ⟨rfl, rfl⟩ := trodVars_none hV
  have k0 := h0
  have lt0 : ∀ x ∈ p0, x.block < W.heap.size := by obtain ⟨m, hm⟩ := k0; exact DataW.trod_lt m _ _ _ hm
  have k1 := h1
  have lt1 : ∀ x ∈ p1, x.block < W.heap.size := by obtain ⟨m, hm⟩ := k1; exact DataW.trod_lt m _ _ _ hm
  have k2 := h2
  have lt2 : ∀ x ∈ p2, x.block < W.heap.size := by obtain ⟨m, hm⟩ := k2; exact DataW.trod_lt m _ _ _ hm
  obtain ⟨a0, rfl, e0, _, w0⟩ := open_int Try.underlying3 (hval 0 3 v0 rfl rfl) h0
  obtain ⟨x1, a1, rfl, w1, s1, z1⟩ := big_in comes_letter Try.underlying72 (hval 1 72 v1 rfl rfl) h1 hsz (j := 1) rfl rfl
  obtain ⟨a2, b2, c2, rfl, w2, lc2, s2⟩ := bytes_in Try.underlying26 Try.underlying5 (by kernel_rfl) (hval 2 26 v2 rfl rfl) h2
  have m2 := bytes_most hsz (j := 2) rfl rfl Try.underlying26 (by kernel_rfl) s2
  clear hA0 hval0
  refine (walk W a0 w0 x1 a1 w1 s1 z1 a2 b2 c2 w2 m2 lc2).mono fun e W' ⟨he, bel⟩ => ?_
  subst he
  exact ⟨_, rfl, _, _, _, [], _, [], hW', trodAll_mk1 (shut_bool Try.underlying4 _), (trodAll_cons_mk (Below.trod laidOut (by kernel_rfl) (of_decide_eq_true (by kernel_rfl)) k0 bel lt0) (trodAll_cons_mk (Below.trod laidOut (by kernel_rfl) (of_decide_eq_true (by kernel_rfl)) k1 bel lt1) (trodAll_cons_mk (Below.trod laidOut (by kernel_rfl) (of_decide_eq_true (by kernel_rfl)) k2 bel lt2) (trodAll_mk0)))), rfl, bel.frame _, fun h => by cases h⟩

theorem over : Rows.wireLettersRow.holds Try.pinned (OpenSpec.ofChange Rows.wireLettersSpec) :=
  OpenClaim.holds_of_wide 7 Try.f7 rfl rfl rfl rfl rfl rfl rfl ⟨rfl, rfl, rfl, rfl, rfl⟩ rfl rfl rfl rfl rfl (by kernel_rfl) Try.func7 (by kernel_rfl)
    (of_decide_eq_true (by kernel_rfl)) (by unfold Func.isWrapper; first | (rw [if_pos (by decide +kernel)]; kernel_rfl) | (rw [if_neg (by decide +kernel)]; exact ⟨rfl, rfl⟩))
    (fun os started H enc _ => lifted os started H enc)
theorem proved : Rows.WireLettersSaid := over
end Go.Proofs.Ytoeobicpdeklaaa.wireLetters
