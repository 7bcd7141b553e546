/-
  Bytes of another's that a row of one's own takes in.
-/
import Derived.Test.YtoeobicpdeklaaaWireU
namespace Go.Proofs.Ytoeobicpdeklaaa
open Go Go.RowKit
theorem own_rd {w0 w : World} {S : List Nat} {es : List Ent} {i : Nat} {g : Option Nat} {T : TypeId} {b m : List UInt8} {sp : List Value} (H : Hp w0 w S es) (he : es[i]? = some (g, T, u8s (b ++ m) ++ sp)) : Rd w (hd g) b.length 1 (u8s b) :=
  H.rd (xs := u8s b) (sp := u8s m ++ sp) (by rw [he, u8s_append, List.append_assoc]) (u8s_length1 _) (by decide)
theorem own_some {w0 w : World} {S : List Nat} {es : List Ent} {i : Nat} {g : Option Nat} {T : TypeId} {cs : List Value} (H : Hp w0 w S es) (he : es[i]? = some (g, T, cs)) (h : 0 < cs.length) : ∃ k, g = some k := by
  cases g with
  | some k => exact ⟨k, rfl⟩
  | none =>
    have h1 := H.ent i _ he
    change cs = [] at h1
    subst h1
    cases h
theorem u8s_at {b : List UInt8} {q : Nat} (h : q < b.length) : (u8s b)[q]? = some (.int .u8 ((b[q]'h).toNat : Int)) := by simp [u8s, h]
theorem Hp.adopt {w0 w : World} {S : List Nat} {es : List Ent} {p : Nat} {T : TypeId} {cs : List Value} (H : Hp w0 w S es) (hp : w.heap[p]? = some (.cells cs.toArray T (0, 0))) (hn : w0.heap.size ≤ p) (ha : p ∉ bl es) : Hp w0 w S (es ++ [(some p, T, cs)]) := by
  refine ⟨H.os, H.tape, H.output, H.size, H.frame, ?_, ?_⟩
  · intro i e he
    rcases Nat.lt_or_ge i es.length with hi | hi
    · rw [List.getElem?_append_left hi] at he
      exact H.ent i e he
    · rw [List.getElem?_append_right hi] at he
      cases hj : i - es.length with
      | zero =>
        rw [hj] at he
        simp at he
        subst he
        exact ⟨hp, .inr hn⟩
      | succ n => rw [hj] at he; simp at he
  · have hno : ∀ (i : Nat) (e : Ent), es[i]? = some e → e.1 ≠ some p := fun i e he hg => ha (List.mem_filterMap.2 ⟨e, List.mem_of_getElem? he, hg⟩)
    have key : ∀ (i : Nat) (e : Ent), (es ++ [(some p, T, cs)])[i]? = some e → (i < es.length ∧ es[i]? = some e) ∨ (i = es.length ∧ e.1 = some p) := by
      intro i e he
      rcases Nat.lt_or_ge i es.length with hi | hi
      · rw [List.getElem?_append_left hi] at he
        exact .inl ⟨hi, he⟩
      · rw [List.getElem?_append_right hi] at he
        cases hj : i - es.length with
        | zero =>
          rw [hj] at he
          simp at he
          subst he
          exact .inr ⟨by omega, rfl⟩
        | succ n => rw [hj] at he; simp at he
    intro i j e f g hi hj hge hgf
    rcases key i e hi with ⟨h1, h2⟩ | ⟨h1, h2⟩ <;> rcases key j f hj with ⟨h3, h4⟩ | ⟨h3, h4⟩
    · exact H.apart i j e f g h2 h4 hge hgf
    · rw [h4] at hgf; exact absurd (hge.trans hgf.symm) (hno i e h2)
    · rw [h2] at hge; exact absurd (hgf.trans hge.symm) (hno j f h4)
    · omega
/-- The block of a slice of another's, as a row. -/
theorem adopt_slice {w0 w : World} {S : List Nat} {es : List Ent} {B : Option Addr} {n : Nat} {xs : List Value} (H : Hp w0 w S es) (hr : Rd w B n 1 xs) (hn : xs.length = n) (hok : 0 < n → ∀ p, B = some p → w0.heap.size ≤ p.block ∧ p.block ∉ bl es ∧ Tw w p.block) :
    ∃ (g : Option Nat) (U : TypeId) (cs : List Value) (o : Nat), Hp w0 w S (es ++ [(g, U, cs)]) ∧ (0 < n → ∃ k, g = some k ∧ B = some ⟨k, o, none⟩ ∧ o + n ≤ cs.length) ∧ (∀ k, g = some k → 0 < n ∧ ∃ p, B = some p ∧ p.block = k) := by
  rcases Nat.eq_zero_or_pos n with h0 | h0
  · exact ⟨none, 0, [], 0, H.nil 0, fun h => by omega, fun k h => by cases h⟩
  · obtain ⟨p, rfl⟩ := hr.some_ h0
    obtain ⟨h1, h2, arr, U, h3⟩ := hok h0 p rfl
    have hcell : ∀ j, j < n → ∃ v, w.cell? (p.add j) = some v := fun j hj => ⟨xs[j]'(by omega), hr.cells p rfl j _ (List.getElem?_eq_getElem (by omega))⟩
    have hsp : p.spot = none := by
      obtain ⟨v, hv⟩ := hcell 0 h0
      rw [Addr.add_zero'] at hv
      unfold World.cell? at hv
      rw [h3] at hv
      simp only at hv
      split at hv
      · cases hv
      · rename_i h
        simpa using h
    obtain ⟨blk, off, spot⟩ := p
    simp only at hsp h1 h2 h3
    subst hsp
    have hlen : off + n ≤ arr.size := by
      obtain ⟨v, hv⟩ := hcell (n - 1) (by omega)
      rw [addn] at hv
      unfold World.cell? at hv
      simp only [h3] at hv
      have hv2 : arr[off + (n - 1)]? = some v := hv
      have := (Array.getElem?_eq_some_iff.1 hv2).1
      omega
    exact ⟨some blk, U, arr.toList, off, H.adopt (by simpa using h3) h1 h2, fun _ => ⟨blk, rfl, rfl, by simpa using hlen⟩, fun k h => ⟨h0, _, rfl, by simpa using h⟩⟩
end Go.Proofs.Ytoeobicpdeklaaa
