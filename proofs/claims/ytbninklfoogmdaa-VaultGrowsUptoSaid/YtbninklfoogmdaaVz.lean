/-
  First parts of a list; the books of first notes.
-/
import Derived.Test.YtbninklfoogmdaaVy
namespace Go.Proofs.Ytbninklfoogmdaa
open Go Go.RowKit

theorem Sl.take {X : Type} {R : List Value → X → Prop} {sz : Nat} {w : World} {ok : Nat → Prop} {A : Option Addr} {xs : List X} (h : Sl R sz w ok A xs) {i : Nat} (hi : i ≤ xs.length) : Sl R sz w ok A (xs.take i) := by
  obtain ⟨ps, hp, hr, ha, h2⟩ := h
  have hl := h2.len
  refine ⟨ps.take i, hp.sub fun x hx => List.mem_of_mem_take hx, ⟨?_, fun a e j u hu => ?_, fun e => ?_⟩, fun h0 p e => ha (by rw [List.length_take] at h0; omega) p e, h2.take i⟩
  · rw [(hp.sub fun x hx => List.mem_of_mem_take hx : Pl sz (ps.take i)).len, List.length_take, List.length_take, hl]
  · refine hr.cells a e j u ?_
    rw [← hp.take_ i, List.getElem?_take] at hu
    split at hu
    · exact hu
    · cases hu
  · have := hr.nil e
    rw [List.length_take]; omega
theorem Rep.some {l : List Nt} {b : Bo} {e : Int} {c : Bo} (h : Rep l b e) (hc : repl Bo.empty l = some c) : b = c ∧ e = 0 ∧ Good c l.length := by
  rcases h with ⟨h1, h2, h3⟩ | ⟨h1, _⟩
  · rw [hc] at h1; cases h1; exact ⟨rfl, h2, h3⟩
  · rw [hc] at h1; cases h1
theorem Rep.none {l : List Nt} {b : Bo} {e : Int} (h : Rep l b e) (hc : repl Bo.empty l = none) : b = Bo.zero ∧ e = 21 := by
  rcases h with ⟨h1, _⟩ | ⟨_, h2⟩
  · rw [hc] at h1; cases h1
  · exact h2
theorem BoR.shape {w : World} {ok : Nat → Prop} {cs : List Value} {b : Bo} (h : BoR w ok cs b) : ∃ X1 m1 x1 X2 m2 x2 X3 m3 x3, cs = [.slice X1 m1 x1, .slice X2 m2 x2, .slice X3 m3 x3] := by
  obtain ⟨_, _, _, _, _, _, rfl, _⟩ := h
  exact ⟨_, _, _, _, _, _, _, _, _, rfl⟩
theorem BoR.of3 {w : World} {ok : Nat → Prop} {X1 X2 X3 : Option Addr} {m1 x1 m2 x2 m3 x3 : Nat} {b : Bo} (h : BoR w ok [.slice X1 m1 x1, .slice X2 m2 x2, .slice X3 m3 x3] b) :
    (m1 = b.groups.length ∧ m2 = b.rights.length ∧ m3 = b.last.length) ∧ Sl (SvR w ok) 6 w ok X1 b.groups ∧ Sl RtR 4 w ok X2 b.rights ∧ Sl MkR 7 w ok X3 b.last := by
  obtain ⟨A1, k1, A2, k2, A3, k3, he, h1, h2, h3⟩ := h
  simp only [List.cons.injEq, Value.slice.injEq] at he
  obtain ⟨⟨rfl, rfl, rfl⟩, ⟨rfl, rfl, rfl⟩, ⟨rfl, rfl, rfl⟩, _⟩ := he
  exact ⟨⟨rfl, rfl, rfl⟩, h1, h2, h3⟩
end Go.Proofs.Ytbninklfoogmdaa
