/-
  What a row's step needs of a list of calls that came in.
-/
import Derived.Test.YtlglenbmpikhmaaCodecStep
import Derived.Test.YtlglenbmpikhmaaShut
namespace Go.Proofs.Ytlglenbmpikhmaa
open Go Go.ChangeShapes Go.WideShapes Go.ChangeAt Go.RowKit
theorem askCells_inv : ∀ (xs : List (Int × Int)) (n : Nat) (u : Value), (askCells xs)[n]? = some u → ∃ (i : Nat) (h : i < xs.length) (j : Nat), j < 2 ∧ n = i * 2 + j ∧ [Value.int .i64 xs[i].1, Value.int .i64 xs[i].2][j]? = some u
  | [], n, u, h => by simp [askCells] at h
  | p :: xs, n, u, h => by
    simp only [askCells, List.flatMap_cons] at h
    by_cases hn : n < 2
    · rw [List.getElem?_append_left (by simpa using hn)] at h
      exact ⟨0, by simp, n, hn, by omega, by simpa using h⟩
    · rw [List.getElem?_append_right (by simp; omega)] at h
      obtain ⟨i, hi, j, hj, h1, h2⟩ := askCells_inv xs _ u h
      simp only [List.length_cons, List.length_nil] at h1
      exact ⟨i + 1, by simpa using hi, j, hj, by omega, by simpa using h2⟩
section
variable {H : Type} {enc : TypeId × Value → H} {P : Program} {w : World}
def twoOf (y : DataW H × List MemPlace) : Int × Int := match y.1 with | .agg [.lit (.int _ a), .lit (.int _ b)] => (a, b) | _ => (0, 0)
theorem two_in {base : Nat} {spare : Nat → Bool} {held : Bool} {e : TypeId} {fs : Array Field} {f0 f1 : Field} (he : P.underlying e = some (.struct fs)) (h0 : fs[0]? = some f0) (h1 : fs[1]? = some f1) (hs : fs.size = 2) (hc : P.cellsOf e = 2)
    (hf0 : f0.offset = 0) (hf1 : f1.offset = 1) (hc0 : P.cellsOf f0.type = 1) (hc1 : P.cellsOf f1.type = 1) (hu0 : P.underlying f0.type = some (.int .i64)) (hu1 : P.underlying f1.type = some (.int .i64))
    {n : Nat} {cs : List Value} {y : DataW H × List MemPlace} (h : DataW.trod enc P w base spare held n e cs = some y) :
    cs = [.int .i64 (twoOf y).1, .int .i64 (twoOf y).2] ∧ (Lit.int .i64 (twoOf y).2).wf = true := by
  obtain ⟨xs, m, _, hy, hl, hx, hall⟩ := DataW.trod_struct he h
  have a0 := hall 0 f0 h0
  have a1 := hall 1 f1 h1
  rw [hf0, hc0] at a0
  rw [hf1, hc1] at a1
  rw [hc] at hl
  rw [hs] at hx
  match xs, hx with
  | [x0, x1], _ =>
    match cs, hl with
    | [c0, c1], _ =>
      simp at a0 a1
      obtain ⟨n0, e0, g0, w0⟩ := DataW.trod_int hu0 a0
      obtain ⟨n1, e1, g1, w1⟩ := DataW.trod_int hu1 a1
      simp at e0 e1
      subst e0; subst e1; subst hy; subst g0; subst g1
      exact ⟨rfl, w1⟩
theorem asks_in {r : Reach} {b0 : Nat} {t e : TypeId} {v : Value} {d : DataW H} {ps : List MemPlace} {fs : Array Field} {f0 f1 : Field} (ht : P.underlying t = some (.slice e)) (he : P.underlying e = some (.struct fs)) (h0 : fs[0]? = some f0) (h1 : fs[1]? = some f1) (hs : fs.size = 2) (hc : P.cellsOf e = 2)
    (hf0 : f0.offset = 0) (hf1 : f1.offset = 1) (hc0 : P.cellsOf f0.type = 1) (hc1 : P.cellsOf f1.type = 1) (hu0 : P.underlying f0.type = some (.int .i64)) (hu1 : P.underlying f1.type = some (.int .i64))
    (hval : Value.okWide P w r b0 t v) (hd : DataW.Trod enc P w 0 (fun _ => true) true t v d ps) :
    ∃ (A : Option Addr) (xs : List (Int × Int)) (c : Nat), v = .slice A xs.length c ∧ Rd w A xs.length 2 (askCells xs) ∧ (∀ p ∈ xs, -9223372036854775808 ≤ p.2 ∧ p.2 ≤ 9223372036854775807) ∧ (xs.length = 0 ∨ ∃ x y, d = .slice x y ∧ x.length = xs.length) := by
  obtain ⟨A, len, cap, rfl⟩ := okWide_slice ht hval
  obtain ⟨fuel, hf⟩ := hd
  rcases DataW.trod_slice ht hf with ⟨hcs, _⟩ | ⟨a, l, c, elems, rest, n, _, hcs, hdd, _, _, _, hlen, hel, _, _⟩
  · simp [Value.cells] at hcs
    obtain ⟨rfl, rfl, rfl⟩ := hcs
    exact ⟨none, [], 0, rfl, ⟨rfl, fun _ h => (by cases h), fun _ => rfl⟩, by simp, .inl rfl⟩
  · simp [Value.cells] at hcs
    obtain ⟨rfl, rfl, rfl⟩ := hcs
    have each : ∀ (i : Nat) y, elems[i]? = some y → (∀ j u, [Value.int .i64 (twoOf y).1, Value.int .i64 (twoOf y).2][j]? = some u → w.cell? ((a.add (i * 2)).add j) = some u) ∧ (Lit.int .i64 (twoOf y).2).wf = true := by
      intro i y hy
      have hi : i < len := by have := (List.getElem?_eq_some_iff.1 hy).1; omega
      have hb := (hel i hi).trans hy
      rw [hc, Option.bind_eq_some_iff] at hb
      obtain ⟨cs', hcs, hy'⟩ := hb
      obtain ⟨e1, w1⟩ := two_in he h0 h1 hs hc hf0 hf1 hc0 hc1 hu0 hu1 hy'
      refine ⟨fun j u hu => ?_, w1⟩
      have hj : j < 2 := by have := (List.getElem?_eq_some_iff.1 hu).1; simpa using this
      rw [(World.cells?_some hcs).2.2 j hj, e1, hu]
    refine ⟨some a, elems.map twoOf, cap, by simp [hlen], ⟨by rw [askCells_length], ?_, fun h => (by cases h)⟩, ?_, .inr ⟨_, _, (Prod.mk.inj hdd).1, by simp⟩⟩
    · intro a' ha k u hu
      cases ha
      obtain ⟨i, hi, j, hj, rfl, h2⟩ := askCells_inv _ _ _ hu
      have hi' : i < elems.length := by simpa using hi
      rw [← add_add]
      refine (each i elems[i] (List.getElem?_eq_getElem hi')).1 j u ?_
      simpa using h2
    · intro p hp
      obtain ⟨y, hy, rfl⟩ := List.mem_map.1 hp
      obtain ⟨i, hi⟩ := List.getElem?_of_mem hy
      have := (each i y hi).2
      simp only [Lit.wf, Bool.and_eq_true, decide_eq_true_eq] at this
      exact this
theorem asks_most {ts : List TypeId} {ds : List (DataW H)} (h : (DataW.weightsEach P ts ds).all (· ≤ reachBytes) = true) {j : Nat} {t e : TypeId} {d : DataW H} {n : Nat} (ht : ts[j]? = some t) (hd : ds[j]? = some d) (hu : P.underlying t = some (.slice e)) (hb : P.bytesOf e = 16)
    (hx : n = 0 ∨ ∃ x y, d = .slice x y ∧ x.length = n) : n ≤ 140737488351232 := by
  rcases hx with rfl | ⟨x, y, rfl, hx⟩
  · omega
  · have := sized_slice h ht hd hu
    rw [hb] at this
    simp only [reachBytes] at this
    omega
end
end Go.Proofs.Ytlglenbmpikhmaa
