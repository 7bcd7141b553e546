/- VaultGrows: whatever the input, the law answers true, and its input stands. -/
import Derived.Test.YtbninklfoogmdaaVaGr
import Derived.Test.YtbninklfoogmdaaComu
import Derived.Test.YtbninklfoogmdaaRows
import Derived.WalkKit
import Derived.ProofKit
import Derived.OpenShut
import Derived.Carry
import Derived.SizedLaws
import Derived.JoinedCond
namespace Go.Proofs.Ytbninklfoogmdaa.vaultGrows
open Go.ChangeShapes Go.WideShapes Go.ChangeAt Go.RowKit
set_option linter.unusedVariables false
theorem own : ownKnob Try.prog.godebug = none := by kernel_rfl
theorem laidOut : laidOutB Try.prog = true := by kernel_rfl
theorem walk (w : World) (a0 : Option Addr) (b0 : List Nt) (c0 : Nat) (w0 : Sl (NtR w (fun _ => True)) 16 w (fun _ => True) a0 b0) (a1 : Option Addr) (b1 : List Nt) (c1 : Nat) (w1 : Sl (NtR w (fun _ => True)) 16 w (fun _ => True) a1 b1) (hb : b0.length ≤ 2000000 ∧ b1.length ≤ 2000000) :
    Calls Try.prog 3 #[.slice a0 b0.length c0, .slice a1 b1.length c1] w fun e w' => e = .returned (.bool true) ∧ Below w.heap.size w w' := by
  have fin : ∀ {e : Ending} {w' : World}, (∃ v, e = .returned v ∧ v = .bool true ∧ Hp w w' [] []) → e = .returned (.bool true) ∧ Below w.heap.size w w' := fun ⟨v, he, hv, H⟩ => ⟨by rw [he, hv], H.below⟩
  have h := grows_v a0 c0 b0 a1 c1 b1 _ _ w w0 w1 hb.1 hb.2
  unfold Does at h
  exact h.mono fun e w' hh => fin hh
theorem one_le {H : Type} (d : DataW H) : 1 ≤ Rows.uptoBulk d := by
  cases d with
  | lit l => cases l <;> simp [Rows.uptoBulk]
  | _ => simp [Rows.uptoBulk]
theorem len_le {H : Type} : ∀ l : List (DataW H), l.length ≤ Rows.uptoBulkAll l
  | [] => by simp [Rows.uptoBulkAll]
  | x :: r => by have := one_le x; have := len_le r; simp only [Rows.uptoBulkAll, List.length_cons]; omega
theorem slice_le {H : Type} {d : DataW H} {n : Nat} (h : n = 0 ∨ ∃ x y, d = .slice x y ∧ x.length = n) : n ≤ Rows.uptoBulk d := by
  rcases h with rfl | ⟨x, y, rfl, rfl⟩
  · exact Nat.zero_le _
  · have := len_le x
    simp only [Rows.uptoBulk]; omega
theorem bound {H : Type} {l : List (DataW H)} (hk : Rows.uptoSmall H l = true) : Rows.uptoBulkAll l ≤ 1048576 := of_decide_eq_true hk
set_option maxRecDepth 100000 in
theorem lifted (os : Os) (started : os.Started) (H : Type) (enc : TypeId × Value → H) (F : Stop.Interp) :
    ReturnsInHanded {} Try.checked os 3 .any ((Rows.OpenSpec.upto Rows.vaultGrowsSpec).pre6 enc Try.prog Try.f3 Rows.vaultGrowsUptoRow.domain false) (((Rows.OpenSpec.upto Rows.vaultGrowsSpec).at F).post enc Try.prog Try.f3 false true false false) := by
  refine returnsInHanded_of_cond (C := Try.checked) (s := Rows.OpenSpec.upto Rows.vaultGrowsSpec) (k := Rows.uptoSmall) rfl own started (by kernel_rfl) Try.func3
    (OpenSpec.witness (enc := enc) (C := Try.checked) (s := Rows.OpenSpec.upto Rows.vaultGrowsSpec) (k := Rows.uptoSmall) rfl false ⟨#[], #[.slice none 0 0, .slice none 0 0], []⟩ 8 (by kernel_rfl) (by kernel_rfl) (by kernel_rfl)
      (x := ([.nil, .nil], [], [])) (by kernel_rfl) rfl (by kernel_rfl)) ?_
  intro W base args ds gs before hval0 hW _ hk0 _
  have hval : ∀ (j : Nat) t v, Try.f3.params[j]? = some t → args[j]? = some v → Value.okWide Try.prog W .any base t v := hval0
  have hk := bound hk0
  have hW' := hW
  obtain ⟨p, q, hA0, hV, rfl, hfz, hnd⟩ := hW
  have hA : DataW.TrodAll enc Try.prog W 0 (fun _ => true) true Try.f3.params.toList args.toList ds p := hA0
  rw [Try.params3] at hA hval
  obtain ⟨v0, vs0, d0, ds0, p0, q0, hargs, rfl, rfl, h0, r0⟩ := trodAll_cons hA
  obtain ⟨v1, vs1, d1, ds1, p1, q1, rfl, rfl, rfl, h1, r1⟩ := trodAll_cons r0
  obtain ⟨rfl, rfl, rfl⟩ := trodAll_nil r1
  obtain rfl : args = #[v0, v1] := by cases args; simp_all
  obtain ⟨rfl, rfl⟩ := trodVars_none hV
  have k0 := h0
  have lt0 : ∀ x ∈ p0, x.block < W.heap.size := by obtain ⟨m, hm⟩ := k0; exact DataW.trod_lt m _ _ _ hm
  have k1 := h1
  have lt1 : ∀ x ∈ p1, x.block < W.heap.size := by obtain ⟨m, hm⟩ := k1; exact DataW.trod_lt m _ _ _ hm
  obtain ⟨a0, b0, c0, rfl, w0, s0, lc0, z0⟩ := notes_inU (hval 0 22 v0 rfl rfl) h0 (by simp only [Rows.uptoBulkAll, List.append_nil] at hk; omega)
  obtain ⟨a1, b1, c1, rfl, w1, s1, lc1, z1⟩ := notes_inU (hval 1 22 v1 rfl rfl) h1 (by simp only [Rows.uptoBulkAll, List.append_nil] at hk; omega)
  have hb : b0.length ≤ 2000000 ∧ b1.length ≤ 2000000 := by
    have q0 := slice_le z0
    have q1 := slice_le z1
    simp only [Rows.uptoBulkAll, List.append_nil] at hk
    omega
  clear hA0 hval0
  refine (walk W a0 b0 c0 w0 a1 b1 c1 w1 hb).mono fun e W' ⟨he, bel⟩ => ?_
  subst he
  exact ⟨_, rfl, _, _, _, [], _, [], hW', trodAll_mk1 (shut_bool Try.underlying4 _), (trodAll_cons_mk (Below.trod laidOut (by kernel_rfl) (of_decide_eq_true (by kernel_rfl)) k0 bel lt0) (trodAll_cons_mk (Below.trod laidOut (by kernel_rfl) (of_decide_eq_true (by kernel_rfl)) k1 bel lt1) (trodAll_mk0))), rfl, bel.frame _, fun h => by cases h⟩

theorem over : Rows.vaultGrowsUptoRow.holds Try.pinned (Rows.OpenSpec.upto Rows.vaultGrowsSpec) :=
  OpenClaim.holds_of_cond 3 Try.f3 rfl rfl rfl rfl rfl rfl rfl ⟨rfl, rfl, rfl, rfl, rfl⟩ rfl rfl rfl rfl rfl (by kernel_rfl) Try.func3 (by kernel_rfl)
    (of_decide_eq_true (by kernel_rfl)) (by unfold Func.isWrapper; first | (rw [if_pos (by decide +kernel)]; kernel_rfl) | (rw [if_neg (by decide +kernel)]; exact ⟨rfl, rfl⟩))
    (fun os started H enc _ F => lifted os started H enc F)
theorem proved : Rows.VaultGrowsUptoSaid := over
end Go.Proofs.Ytbninklfoogmdaa.vaultGrows
