/-
  Plain laws: what may have been saved, test by test.
-/
import Derived.Test.YtbninklfoogmdaaVq
namespace Go.Proofs.Ytbninklfoogmdaa
open Go Go.RowKit

def ldOk (p : Bal) (first : Int) (l : List Vt) : Bool := decide (1 ≤ first ∧ first ≤ 1099511627776) && decide ((p.r = 0 ∧ p.n = 0) ∨ (1 ≤ p.r ∧ 1 ≤ p.n)) && vtsOk p first first l
section
variable {p : Bal} {first m : Int} {l r : List Vt} {x : Vt} {i : Nat} {s : Sv}
theorem ld_f1 (h : ¬ (1 ≤ first ∧ first ≤ 1099511627776)) : ldOk p first l = false := by unfold ldOk; rw [decide_eq_false h]; rfl
theorem ld_f2 (h : ¬ ((p.r = 0 ∧ p.n = 0) ∨ (1 ≤ p.r ∧ 1 ≤ p.n))) : ldOk p first l = false := by unfold ldOk; rw [decide_eq_false h, Bool.and_false, Bool.false_and]
theorem ld_v (h1 : 1 ≤ first ∧ first ≤ 1099511627776) (h2 : (p.r = 0 ∧ p.n = 0) ∨ (1 ≤ p.r ∧ 1 ≤ p.n)) : ldOk p first l = vtsOk p first first l := by unfold ldOk; rw [decide_eq_true h1, decide_eq_true h2]; rfl
theorem drop_cons {α : Type} {l : List α} {i : Nat} {x : α} (h : l[i]? = some x) : l.drop i = x :: l.drop (i + 1) := by
  obtain ⟨hl, rfl⟩ := List.getElem?_eq_some_iff.1 h
  exact List.drop_eq_getElem_cons hl
theorem vts_no (hx : l[i]? = some x) (h : ¬ (m ≤ x.slot ∧ x.slot < first + 16 ∧ 1 ≤ x.b.r ∧ 1 ≤ x.b.n ∧ ¬ p.lt x.b ∧ x.val.length ≤ 2048)) : vtsOk p first m (l.drop i) = false := by
  rw [drop_cons hx, vtsOk, decide_eq_false h]; rfl
theorem vts_go (hx : l[i]? = some x) (h : m ≤ x.slot ∧ x.slot < first + 16 ∧ 1 ≤ x.b.r ∧ 1 ≤ x.b.n ∧ ¬ p.lt x.b ∧ x.val.length ≤ 2048) : vtsOk p first m (l.drop i) = vtsOk p first (x.slot + 1) (l.drop (i + 1)) := by
  rw [drop_cons hx, vtsOk, decide_eq_true h, Bool.true_and]
theorem vts_end : vtsOk p first m (l.drop l.length) = true := by rw [List.drop_length]; rfl
theorem ent_no {l : List En} {x : En} (hx : l[i]? = some x) (h : ¬ (x.slot = m + 1 ∧ x.slot ≤ 1099511627776 ∧ x.val.length ≤ 2048)) : entOk m (l.drop i) = false := by
  rw [drop_cons hx, entOk, decide_eq_false h]; rfl
theorem ent_go {l : List En} {x : En} (hx : l[i]? = some x) (h : x.slot = m + 1 ∧ x.slot ≤ 1099511627776 ∧ x.val.length ≤ 2048) : entOk m (l.drop i) = entOk (m + 1) (l.drop (i + 1)) := by
  rw [drop_cons hx, entOk, decide_eq_true h, Bool.true_and]
theorem ent_end {l : List En} : entOk m (l.drop l.length) = true := by rw [List.drop_length]; rfl
theorem ents_slot : ∀ {l : List En} {n : Int}, entOk n l = true → ∀ (i : Nat) (x : En), l[i]? = some x → x.slot = n + 1 + i ∧ x.slot ≤ 1099511627776 ∧ x.val.length ≤ 2048
  | [], _, _, i, x, h => by simp at h
  | e :: l, n, h, i, x, hx => by
    simp only [entOk, Bool.and_eq_true, decide_eq_true_eq] at h
    cases i with
    | zero =>
      simp only [List.getElem?_cons_zero, Option.some.injEq] at hx
      subst hx
      have := h.1
      exact ⟨by omega, this.2⟩
    | succ i =>
      simp only [List.getElem?_cons_succ] at hx
      have := ents_slot h.2 i x hx
      have := h.1
      exact ⟨by omega, by omega, by omega⟩
theorem chk_f1 (h : ¬ ((s.p.r = 0 ∧ s.p.n = 0) ∨ (1 ≤ s.p.r ∧ 1 ≤ s.p.n ∧ s.p.n ≤ 5))) : chk s = false := by unfold chk; rw [decide_eq_false h]; rfl
theorem chk_f2 (h : ¬ (0 ≤ s.index ∧ s.index ≤ 1099511627776 ∧ (s.index = 0 → s.image.length = 0) ∧ s.image.length ≤ 8192)) : chk s = false := by unfold chk; rw [decide_eq_false h, Bool.and_false, Bool.false_and, Bool.false_and, Bool.false_and]
theorem chk_f3 (h : entOk s.index s.entries = false) : chk s = false := by unfold chk; rw [h, Bool.and_false, Bool.false_and, Bool.false_and]
theorem chk_ld (h1 : (s.p.r = 0 ∧ s.p.n = 0) ∨ (1 ≤ s.p.r ∧ 1 ≤ s.p.n ∧ s.p.n ≤ 5)) (h2 : 0 ≤ s.index ∧ s.index ≤ 1099511627776 ∧ (s.index = 0 → s.image.length = 0) ∧ s.image.length ≤ 8192) (h3 : entOk s.index s.entries = true) : chk s = ldOk s.p (s.index + s.entries.length + 1) s.votes := by
  unfold chk ldOk
  rw [decide_eq_true h1, decide_eq_true h2, h3, decide_eq_true (p := (s.p.r = 0 ∧ s.p.n = 0) ∨ (1 ≤ s.p.r ∧ 1 ≤ s.p.n)) (h1.imp id fun h => ⟨h.1, h.2.1⟩)]
  have e : decide (1 ≤ s.index + (s.entries.length : Int) + 1 ∧ s.index + (s.entries.length : Int) + 1 ≤ 1099511627776) = decide (s.index + (s.entries.length : Int) + 1 ≤ 1099511627776) := by
    rw [decide_eq_decide]; exact ⟨fun h => h.2, fun h => ⟨by have := h2.1; omega, h⟩⟩
  rw [e]
  simp
end
structure ChkE (s : Sv) : Prop where
  p : (s.p.r = 0 ∧ s.p.n = 0) ∨ (1 ≤ s.p.r ∧ 1 ≤ s.p.n ∧ s.p.n ≤ 5)
  i : 0 ≤ s.index ∧ s.index ≤ 1099511627776 ∧ (s.index = 0 → s.image.length = 0) ∧ s.image.length ≤ 8192
  e : entOk s.index s.entries = true
  n : s.index + s.entries.length + 1 ≤ 1099511627776
  v : vtsOk s.p (s.index + s.entries.length + 1) (s.index + s.entries.length + 1) s.votes = true
theorem chk_iff (s : Sv) : chk s = true ↔ ChkE s := by
  unfold chk
  simp only [Bool.and_eq_true, decide_eq_true_eq]
  exact ⟨fun h => ⟨h.1.1.1.1, h.1.1.1.2, h.1.1.2, h.1.2, h.2⟩, fun h => ⟨⟨⟨⟨h.p, h.i⟩, h.e⟩, h.n⟩, h.v⟩⟩
/-- An answer that is 0 or a fault. -/
def Ans (b : Bool) (e : Int) : Prop := (b = true → e = 0) ∧ (b = false → e = 21)
theorem Ans.ok {b : Bool} (h : b = true) : Ans b 0 := ⟨fun _ => rfl, (fun h2 => by rw [h] at h2; cases h2)⟩
theorem Ans.no {b : Bool} (h : b = false) : Ans b 21 := ⟨(fun h2 => by rw [h] at h2; cases h2), fun _ => rfl⟩
end Go.Proofs.Ytbninklfoogmdaa
