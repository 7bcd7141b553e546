/-
  What a row's step needs of a script that came in, and of numbers.
-/
import Derived.Test.YtnlajgeehlpdaaaDisk
import Derived.Test.YtnlajgeehlpdaaaShut
namespace Go.Proofs.Ytnlajgeehlpdaaa
open Go Go.ChangeShapes Go.WideShapes Go.ChangeAt Go.RowKit
theorem list_of {α : Type} {R : Nat → α → Prop} : ∀ n, (∀ i, i < n → ∃ a, R i a) → ∃ l : List α, l.length = n ∧ ∀ i (h : i < l.length), R i l[i]
  | 0, _ => ⟨[], rfl, fun i h => by cases h⟩
  | n + 1, h => by
    obtain ⟨l, hl, hR⟩ := list_of n fun i hi => h i (by omega)
    obtain ⟨a, ha⟩ := h n (by omega)
    refine ⟨l ++ [a], by simp [hl], fun i hi => ?_⟩
    by_cases hin : i < l.length
    · rw [List.getElem_append_left hin]; exact hR i hin
    · have : i = n := by simp at hi; omega
      subst this
      rw [List.getElem_append_right (by omega)]
      simpa [hl] using ha
theorem opCells_length (s : List OpV) : (opCells s).length = s.length * 5 := by
  induction s with
  | nil => rfl
  | cons p s ih => simp only [opCells, List.flatMap_cons, List.length_append, List.length_cons, List.length_nil] at ih ⊢; omega
theorem opCells_inv : ∀ (s : List OpV) (n : Nat) (u : Value), (opCells s)[n]? = some u → ∃ (i : Nat) (h : i < s.length) (j : Nat), n = i * 5 + j ∧ (OpV.cells s[i])[j]? = some u
  | [], n, u, h => by simp [opCells] at h
  | p :: s, n, u, h => by
    simp only [opCells, List.flatMap_cons] at h
    by_cases hn : n < 5
    · rw [List.getElem?_append_left (by simpa using hn)] at h
      exact ⟨0, by simp, n, by omega, by simpa using h⟩
    · rw [List.getElem?_append_right (by simp; omega)] at h
      obtain ⟨i, hi, j, h1, h2⟩ := opCells_inv s _ u h
      simp only [List.length_cons, List.length_nil] at h1
      exact ⟨i + 1, by simpa using hi, j, by omega, by simpa using h2⟩
section
variable {H : Type} {enc : TypeId × Value → H} {w : World}
theorem cI : Try.prog.cellsOf 3 = 1 := by kernel_rfl
theorem cB : Try.prog.cellsOf 5 = 1 := by kernel_rfl
theorem cS : Try.prog.cellsOf 23 = 1 := by kernel_rfl
theorem cO : Try.prog.cellsOf 45 = 5 := by kernel_rfl
theorem wf64 {n : Int} (h : (Lit.int .i64 n).wf = true) : -9223372036854775808 ≤ n ∧ n ≤ 9223372036854775807 := by
  simp only [Lit.wf, Bool.and_eq_true, decide_eq_true_eq] at h
  exact h
/-- Numbers that came in. -/
theorem ints_of {base : Nat} {spare : Nat → Bool} {held : Bool} {n : Nat} {cs : List Value} {y : DataW H × List MemPlace} (h : DataW.trod enc Try.prog w base spare held n 23 cs = some y) :
    ∃ (B : Option Addr) (l : List Int) (c : Nat), cs = [.slice B l.length c] ∧ Rd w B l.length 1 (i64s l) := by
  rcases open_ints Try.underlying23 Try.underlying3 cI h with ⟨hcs, _⟩ | ⟨x, l, c, zs, hcs, _, hl, hm, hz, hdd, hcell, hwz⟩
  · exact ⟨none, [], 0, hcs, ⟨rfl, fun _ h => (by cases h), fun _ => rfl⟩⟩
  · have hzl : l ≤ zs.length := by rw [hz]; split <;> omega
    have hlen : (zs.take l).length = l := by rw [List.length_take]; omega
    refine ⟨some x, zs.take l, c, by rw [hlen]; exact hcs, ⟨by simp [i64s], fun a ha j u hu => ?_, fun h => (by cases h)⟩⟩
    cases ha
    have hj : j < l := by
      have := (List.getElem?_eq_some_iff.1 hu).1
      simp only [i64s, List.length_map, hlen] at this
      exact this
    rw [hcell j (by omega)]
    simp only [i64s, List.getElem?_map, List.getElem?_take, hj, if_true] at hu
    rw [List.getElem?_eq_getElem (by omega)] at hu
    simp only [Option.map_some, Option.some.injEq] at hu
    rw [← hu, List.getD_eq_getElem?_getD, List.getElem?_eq_getElem (by omega)]
    rfl
theorem op_in {base : Nat} {spare : Nat → Bool} {held : Bool} {n : Nat} {cs : List Value} {y : DataW H × List MemPlace} (h : DataW.trod enc Try.prog w base spare held n 45 cs = some y) :
    ∃ o : OpV, cs = OpV.cells o ∧ -9223372036854775808 ≤ o.m ∧ o.m ≤ 9223372036854775807 ∧ Rd w o.B o.keep.length 1 (i64s o.keep) := by
  obtain ⟨xs, m, _, hy, hl, hx, hall⟩ := DataW.trod_struct Try.underlying45 h
  have a0 := hall 0 _ rfl
  have a1 := hall 1 _ rfl
  have a2 := hall 2 _ rfl
  have a3 := hall 3 _ rfl
  have a4 := hall 4 _ rfl
  rw [cO] at hl
  change DataW.trod enc Try.prog w base spare held m 3 ((cs.drop 0).take (Try.prog.cellsOf 3)) = _ at a0
  rw [cI] at a0
  change DataW.trod enc Try.prog w base spare held m 3 ((cs.drop 1).take (Try.prog.cellsOf 3)) = _ at a1
  rw [cI] at a1
  change DataW.trod enc Try.prog w base spare held m 3 ((cs.drop 2).take (Try.prog.cellsOf 3)) = _ at a2
  rw [cI] at a2
  change DataW.trod enc Try.prog w base spare held m 5 ((cs.drop 3).take (Try.prog.cellsOf 5)) = _ at a3
  rw [cB] at a3
  change DataW.trod enc Try.prog w base spare held m 23 ((cs.drop 4).take (Try.prog.cellsOf 23)) = _ at a4
  rw [cS] at a4
  match xs, hx with
  | [x0, x1, x2, x3, x4], _ =>
    match cs, hl with
    | [c0, c1, c2, c3, c4], _ =>
      simp at a0 a1 a2 a3 a4
      obtain ⟨n0, e0, _, w0⟩ := DataW.trod_int Try.underlying3 a0
      obtain ⟨n1, e1, _, w1⟩ := DataW.trod_int Try.underlying3 a1
      obtain ⟨n2, e2, _, w2⟩ := DataW.trod_int Try.underlying3 a2
      obtain ⟨n3, e3, _, w3⟩ := DataW.trod_int Try.underlying5 a3
      obtain ⟨B, l, c, e4, hr⟩ := ints_of a4
      simp at e0 e1 e2 e3 e4
      obtain ⟨x, hx⟩ := wf8 w3
      subst hx
      refine ⟨⟨n0, n1, n2, x, B, l, c⟩, by rw [e0, e1, e2, e3, e4], (wf64 w2).1, (wf64 w2).2, hr⟩
theorem ops_in {r : Reach} {b0 : Nat} {v : Value} {d : DataW H} {ps : List MemPlace} (hval : Value.okWide Try.prog w r b0 22 v) (hd : DataW.Trod enc Try.prog w 0 (fun _ => true) true 22 v d ps) :
    ∃ (A : Option Addr) (s : List OpV) (c : Nat), v = .slice A s.length c ∧ Rd w A s.length 5 (opCells s) ∧ (∀ o ∈ s, -9223372036854775808 ≤ o.m ∧ o.m ≤ 9223372036854775807 ∧ Rd w o.B o.keep.length 1 (i64s o.keep)) ∧ (s.length = 0 ∨ ∃ x y, d = .slice x y ∧ x.length = s.length) := by
  obtain ⟨A, len, cap, rfl⟩ := okWide_slice Try.underlying22 hval
  obtain ⟨fuel, hf⟩ := hd
  rcases DataW.trod_slice Try.underlying22 hf with ⟨hcs, _⟩ | ⟨a, l, c, elems, rest, n, _, hcs, hdd, _, _, _, hlen, hel, _, _⟩
  · simp [Value.cells] at hcs
    obtain ⟨rfl, rfl, rfl⟩ := hcs
    exact ⟨none, [], 0, rfl, ⟨rfl, fun _ h => (by cases h), fun _ => rfl⟩, by simp, .inl rfl⟩
  · simp [Value.cells] at hcs
    obtain ⟨rfl, rfl, rfl⟩ := hcs
    obtain ⟨s, hs, hR⟩ := list_of (R := fun i (o : OpV) => (∀ j u, (OpV.cells o)[j]? = some u → w.cell? ((a.add (i * 5)).add j) = some u) ∧ -9223372036854775808 ≤ o.m ∧ o.m ≤ 9223372036854775807 ∧ Rd w o.B o.keep.length 1 (i64s o.keep)) len (by
      intro i hi
      have hb := hel i hi
      rw [cO, List.getElem?_eq_getElem (by omega), Option.bind_eq_some_iff] at hb
      obtain ⟨cs', hcs, hy'⟩ := hb
      obtain ⟨o, e1, h1, h2, h3⟩ := op_in hy'
      refine ⟨o, fun j u hu => ?_, h1, h2, h3⟩
      have hj : j < 5 := by have := (List.getElem?_eq_some_iff.1 hu).1; simpa using this
      rw [(World.cells?_some hcs).2.2 j hj, e1, hu])
    refine ⟨some a, s, cap, by rw [hs], ⟨opCells_length s, ?_, fun h => (by cases h)⟩, ?_, .inr ⟨_, _, (Prod.mk.inj hdd).1, by simp; omega⟩⟩
    · intro a' ha k u hu
      cases ha
      obtain ⟨i, hi, j, rfl, h2⟩ := opCells_inv _ _ _ hu
      rw [← add_add]
      exact (hR i hi).1 j u h2
    · intro o ho
      obtain ⟨i, hi⟩ := List.getElem?_of_mem ho
      have hlt := (List.getElem?_eq_some_iff.1 hi)
      obtain ⟨hlt, he⟩ := hlt
      have := (hR i hlt).2
      rw [he] at this
      exact this
theorem keep_in {r : Reach} {b0 : Nat} {v : Value} {d : DataW H} {ps : List MemPlace} (hval : Value.okWide Try.prog w r b0 23 v) (hd : DataW.Trod enc Try.prog w 0 (fun _ => true) true 23 v d ps) :
    ∃ (B : Option Addr) (l : List Int) (c : Nat), v = .slice B l.length c ∧ Rd w B l.length 1 (i64s l) := by
  obtain ⟨A, len, cap, rfl⟩ := okWide_slice Try.underlying23 hval
  obtain ⟨fuel, hf⟩ := hd
  obtain ⟨B, l, c, h1, h2⟩ := ints_of hf
  simp [Value.cells] at h1
  obtain ⟨rfl, rfl, rfl⟩ := h1
  exact ⟨A, l, cap, rfl, h2⟩
theorem ops_most {ts : List TypeId} {ds : List (DataW H)} (h : (DataW.weightsEach Try.prog ts ds).all (· ≤ reachBytes) = true) {j : Nat} {d : DataW H} {n : Nat} (ht : ts[j]? = some 22) (hd : ds[j]? = some d)
    (hx : n = 0 ∨ ∃ x y, d = .slice x y ∧ x.length = n) : n ≤ 2513174816128 := by
  rcases hx with rfl | ⟨x, y, rfl, hx⟩
  · omega
  · have := sized_slice h ht hd Try.underlying22
    have hb : Try.prog.bytesOf 45 = 56 := by kernel_rfl
    rw [hb] at this
    simp only [reachBytes] at this
    omega
end
end Go.Proofs.Ytnlajgeehlpdaaa
