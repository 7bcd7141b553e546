/-
  Rows of votes and entries, sifted.
-/
import Derived.Test.YtbninklfoogmdaaVw
namespace Go.Proofs.Ytbninklfoogmdaa
open Go Go.RowKit

section
variable {w : World} {ok : Nat → Prop} {ps : List (List Value)} {l : List Vt} {q : List Value} {v : Vt} {n : Int}
theorem vtLt_eq {p : List Value} {x : Vt} (h : VtR w ok p x) : vtLt n p = decide (x.slot < n) := by obtain ⟨_, _, rfl, _⟩ := h; rfl
theorem behind_rows (h2 : All2 (VtR w ok) ps l) : All2 (VtR w ok) (ps.filter fun p => !vtLe n p) (behind l n) := by
  unfold behind
  exact h2.filter (f := fun p => !vtLe n p) (g := fun x => decide (n < x.slot)) fun p x h => by
    rw [vtLe_eq h]
    by_cases hx : x.slot ≤ n
    · rw [decide_eq_true hx, decide_eq_false (by omega)]; rfl
    · rw [decide_eq_false hx, decide_eq_true (by omega)]; rfl
theorem putVt_rows (h2 : All2 (VtR w ok) ps l) (hv : VtR w ok q v) : All2 (VtR w ok) (ps.filter (vtLt v.slot) ++ [q] ++ ps.filter fun p => !vtLe v.slot p) (putVt l v) := by
  unfold putVt
  rw [List.append_assoc]
  exact (h2.filter fun p x h => vtLt_eq h).app ⟨hv, behind_rows h2⟩
theorem ents_rows {ps : List (List Value)} {l : List En} (h2 : All2 (EnR w ok) ps l) : All2 (EnR w ok) (ps.filter fun p => !vtLe n p) (l.filter fun x => decide (n < x.slot)) :=
  h2.filter (f := fun p => !vtLe n p) (g := fun x => decide (n < x.slot)) fun p x h => by
    rw [enLe_eq h]
    by_cases hx : x.slot ≤ n
    · rw [decide_eq_true hx, decide_eq_false (by omega)]; rfl
    · rw [decide_eq_false hx, decide_eq_true (by omega)]; rfl
end
end Go.Proofs.Ytbninklfoogmdaa
