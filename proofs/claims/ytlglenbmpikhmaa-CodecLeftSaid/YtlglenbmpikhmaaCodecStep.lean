/-
  A call on a reader: what it answers, where it leaves the reader. Plain; and a list of calls in memory.
-/
import Derived.Test.YtlglenbmpikhmaaCodecRef
namespace Go.Proofs.Ytlglenbmpikhmaa
open Go Go.RowKit

/-- What call number k, with this bound, answers: one number, or a text's bytes. -/
def askAns (k m : Int) (b : List UInt8) (i e : Nat) : List Int :=
  if k = 1 then [unz (numStep b i e).1] else if k = 2 then [((byteStep b i e).1 : Int)] else if k = 3 then [if (flagStep b i e).1 then 1 else 0]
  else if k = 4 then (textStep b m i e).1.map (fun c => (c.toNat : Int)) else if k = 5 then [((countStep b m i e).1 : Int)] else [((numStep b i e).1 : Int)]
/-- Where it leaves the reader. -/
def askAt (k m : Int) (b : List UInt8) (i e : Nat) : Nat × Nat :=
  if k = 1 then (numStep b i e).2 else if k = 2 then (byteStep b i e).2 else if k = 3 then (flagStep b i e).2
  else if k = 4 then (textStep b m i e).2 else if k = 5 then (countStep b m i e).2 else (numStep b i e).2
section
variable {k m : Int} {b : List UInt8} {i e : Nat}
theorem askAns1 (h : k = 1) : askAns k m b i e = [unz (numStep b i e).1] := if_pos h
theorem askAns2 (h : k = 2) : askAns k m b i e = [((byteStep b i e).1 : Int)] := by unfold askAns; rw [if_neg (by omega), if_pos h]
theorem askAns3 (h : k = 3) : askAns k m b i e = [if (flagStep b i e).1 then 1 else 0] := by unfold askAns; rw [if_neg (by omega), if_neg (by omega), if_pos h]
theorem askAns4 (h : k = 4) : askAns k m b i e = (textStep b m i e).1.map (fun c => (c.toNat : Int)) := by unfold askAns; rw [if_neg (by omega), if_neg (by omega), if_neg (by omega), if_pos h]
theorem askAns5 (h : k = 5) : askAns k m b i e = [((countStep b m i e).1 : Int)] := by unfold askAns; rw [if_neg (by omega), if_neg (by omega), if_neg (by omega), if_neg (by omega), if_pos h]
theorem askAns6 (h1 : k ≠ 1) (h2 : k ≠ 2) (h3 : k ≠ 3) (h4 : k ≠ 4) (h5 : k ≠ 5) : askAns k m b i e = [((numStep b i e).1 : Int)] := by unfold askAns; rw [if_neg h1, if_neg h2, if_neg h3, if_neg h4, if_neg h5]
theorem askAt1 (h : k = 1) : askAt k m b i e = (numStep b i e).2 := if_pos h
theorem askAt2 (h : k = 2) : askAt k m b i e = (byteStep b i e).2 := by unfold askAt; rw [if_neg (by omega), if_pos h]
theorem askAt3 (h : k = 3) : askAt k m b i e = (flagStep b i e).2 := by unfold askAt; rw [if_neg (by omega), if_neg (by omega), if_pos h]
theorem askAt4 (h : k = 4) : askAt k m b i e = (textStep b m i e).2 := by unfold askAt; rw [if_neg (by omega), if_neg (by omega), if_neg (by omega), if_pos h]
theorem askAt5 (h : k = 5) : askAt k m b i e = (countStep b m i e).2 := by unfold askAt; rw [if_neg (by omega), if_neg (by omega), if_neg (by omega), if_neg (by omega), if_pos h]
theorem askAt6 (h1 : k ≠ 1) (h2 : k ≠ 2) (h3 : k ≠ 3) (h4 : k ≠ 4) (h5 : k ≠ 5) : askAt k m b i e = (numStep b i e).2 := by unfold askAt; rw [if_neg h1, if_neg h2, if_neg h3, if_neg h4, if_neg h5]
theorem one_eq {x y : Int} : (decide (x = y)) = decide ([x] = [y]) := decide_eq_decide.2 (by simp)
theorem bool_eq {x y : Bool} : (decide (x = y)) = decide ([if x = true then (1 : Int) else 0] = [if y = true then (1 : Int) else 0]) := by cases x <;> cases y <;> decide
theorem bytes_eq {x y : List UInt8} : (decide (x = y)) = decide (x.map (fun c => (c.toNat : Int)) = y.map (fun c => (c.toNat : Int))) := by
  refine decide_eq_decide.2 ⟨fun h => by rw [h], fun h => u8s_inj ?_⟩
  have := congrArg (List.map fun z => Value.int .u8 z) h
  simpa [u8s, List.map_map, Function.comp_def] using this
/-- Behind a fault nothing moves, and the answers are zeros. -/
theorem askAt_bad (he : e ≠ 0) : askAt k m b i e = (i, e) := by
  unfold askAt numStep byteStep flagStep textStep countStep
  simp [he]
theorem askAns_bad {b' : List UInt8} {i' e' : Nat} (he : e ≠ 0) (he' : e' ≠ 0) : askAns k m b i e = askAns k m b' i' e' := by
  unfold askAns numStep byteStep flagStep textStep countStep
  simp [he, he']
theorem askAt_go (hi : i ≤ b.length) : i ≤ (askAt k m b i 0).1 ∧ (askAt k m b i 0).1 ≤ b.length ∧ ((askAt k m b i 0).2 ≠ 0 → (askAt k m b i 0).1 = i) := by
  have h1 := numOf_bd (b.drop i)
  have h2 := byteOf_bd (b.drop i)
  have h3 := flagOf_bd (b.drop i)
  have h4 := textOf_bd (b.drop i) m
  have h5 := countedOf_bd (b.drop i) m
  rw [List.length_drop] at h1 h2 h3 h4 h5
  unfold askAt numStep byteStep flagStep textStep countStep
  simp only [if_true]
  split
  · exact ⟨by simp, by simp only; omega, fun h => by have := h1.2.2.2.2.1 h; simp only; omega⟩
  split
  · exact ⟨by simp, by simp only; omega, fun h => by have := h2.2.2.2 h; simp only; omega⟩
  split
  · exact ⟨by simp, by simp only; omega, fun h => by have := h3.2.2 h; simp only; omega⟩
  split
  · exact ⟨by simp, by simp only; omega, fun h => by have := h4.2.2 h; simp only; omega⟩
  split
  · exact ⟨by simp, by simp only; omega, fun h => by have := h5.2.2.2.2.1 h; simp only; omega⟩
  · exact ⟨by simp, by simp only; omega, fun h => by have := h1.2.2.2.2.1 h; simp only; omega⟩
theorem askAt_le (hi : i ≤ b.length) : (askAt k m b i e).1 ≤ b.length := by
  by_cases he : e = 0
  · subst he; exact (askAt_go hi).2.1
  · rw [askAt_bad he]; exact hi
end
/-- Two rows out of blocks that were there. -/
theorem Hp.old2 {w : World} {g g' : Nat} {T T' : TypeId} {cs cs' : List Value} (h : w.heap[g]? = some (.cells cs.toArray T (0, 0))) (h' : w.heap[g']? = some (.cells cs'.toArray T' (0, 0))) (hne : g ≠ g') : Hp w w [g, g'] [(some g, T, cs), (some g', T', cs')] := by
  refine ⟨rfl, rfl, rfl, Nat.le_refl _, fun _ _ _ => rfl, ?_, ?_⟩
  · intro i e he
    match i, he with
    | 0, he => simp at he; subst he; exact ⟨h, .inl (by simp)⟩
    | 1, he => simp at he; subst he; exact ⟨h', .inl (by simp)⟩
  · intro i j e f x hi hj hge hgf
    match i, j, hi, hj with
    | 0, 0, _, _ => rfl
    | 1, 1, _, _ => rfl
    | 0, 1, hi, hj => simp at hi hj; subst hi; subst hj; simp at hge hgf; omega
    | 1, 0, hi, hj => simp at hi hj; subst hi; subst hj; simp at hge hgf; omega
theorem add0 (g o : Nat) : (⟨g, 0, none⟩ : Addr).add o = ⟨g, o, none⟩ := by
  unfold Addr.add
  split
  · rename_i h; rw [h]
  · simp
/-- Calls in memory. -/
def askCells (xs : List (Int × Int)) : List Value := xs.flatMap fun p => [.int .i64 p.1, .int .i64 p.2]
theorem askCells_length (xs : List (Int × Int)) : (askCells xs).length = xs.length * 2 := by
  induction xs with
  | nil => rfl
  | cons p xs ih => simp only [askCells, List.flatMap_cons, List.length_append, List.length_cons, List.length_nil] at ih ⊢; omega
theorem askCells_get : ∀ (xs : List (Int × Int)) (i : Nat) (h : i < xs.length) (j : Nat) (u : Value), [Value.int .i64 xs[i].1, Value.int .i64 xs[i].2][j]? = some u → (askCells xs)[i * 2 + j]? = some u
  | p :: xs, 0, h, j, u, hu => by
    have hj : j < 2 := by have := (List.getElem?_eq_some_iff.1 hu).1; simpa using this
    simp only [askCells, List.flatMap_cons, Nat.zero_mul, Nat.zero_add]
    rw [List.getElem?_append_left (by simpa using hj)]
    simpa using hu
  | p :: xs, i + 1, h, j, u, hu => by
    have := askCells_get xs i (by simpa using h) j u (by simpa using hu)
    simp only [askCells, List.flatMap_cons] at this ⊢
    rw [List.getElem?_append_right (by simp; omega)]
    rw [← this]
    congr 1
    simp; omega
theorem ask_cell {w : World} {a : Addr} {xs : List (Int × Int)} (h : Rd w (some a) xs.length 2 (askCells xs)) {i : Nat} (hi : i < xs.length) : ∀ j u, [Value.int .i64 xs[i].1, Value.int .i64 xs[i].2][j]? = some u → w.cell? ((a.add (i * 2)).add j) = some u := by
  intro j u hu
  rw [add_add]
  exact h.cells a rfl _ _ (askCells_get xs i hi j u hu)
end Go.Proofs.Ytlglenbmpikhmaa
