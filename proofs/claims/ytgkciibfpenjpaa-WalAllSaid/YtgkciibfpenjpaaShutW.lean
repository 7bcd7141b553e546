/-
  What a row's step needs of numbers and of lists of bytes that came in.
-/
import Derived.Test.YtgkciibfpenjpaaLv
import Derived.Test.YtgkciibfpenjpaaShut
namespace Go.Proofs.Ytgkciibfpenjpaa
open Go Go.ChangeShapes Go.WideShapes Go.ChangeAt Go.RowKit
theorem list_of {α : Type} {R : Nat → α → Prop} : ∀ n, (∀ i, i < n → ∃ a, R i a) → ∃ l : List α, l.length = n ∧ ∀ i (h : i < l.length), R i l[i]
  | 0, _ => ⟨[], rfl, fun i h => by cases h⟩
  | n + 1, h => by
    obtain ⟨l, hl, hR⟩ := list_of n fun i hi => h i (by omega)
    obtain ⟨a, ha⟩ := h n (by omega)
    refine ⟨l ++ [a], by simp [hl], fun i hi => ?_⟩
    by_cases hin : i < l.length
    · rw [List.getElem_append_left hin]; exact hR i hin
    · have : i = n := by simp at hi; omega
      subst this
      rw [List.getElem_append_right (by omega)]
      simpa [hl] using ha
section
variable {H : Type} {enc : TypeId × Value → H} {w : World}
theorem cI : Try.prog.cellsOf 3 = 1 := by kernel_rfl
theorem cB : Try.prog.cellsOf 5 = 1 := by kernel_rfl
theorem cU : Try.prog.cellsOf 34 = 1 := by kernel_rfl
theorem wf64 {n : Int} (h : (Lit.int .i64 n).wf = true) : -9223372036854775808 ≤ n ∧ n ≤ 9223372036854775807 := by
  simp only [Lit.wf, Bool.and_eq_true, decide_eq_true_eq] at h
  exact h
/-- Numbers that came in. -/
theorem ints_of {base : Nat} {spare : Nat → Bool} {held : Bool} {n : Nat} {cs : List Value} {y : DataW H × List MemPlace} (h : DataW.trod enc Try.prog w base spare held n 22 cs = some y) :
    ∃ (B : Option Addr) (l : List Int) (c : Nat), cs = [.slice B l.length c] ∧ Rd w B l.length 1 (i64s l) := by
  rcases open_ints Try.underlying22 Try.underlying3 cI h with ⟨hcs, _⟩ | ⟨x, l, c, zs, hcs, _, hl, hm, hz, hdd, hcell, hwz⟩
  · exact ⟨none, [], 0, hcs, ⟨rfl, fun _ h => (by cases h), fun _ => rfl⟩⟩
  · have hzl : l ≤ zs.length := by rw [hz]; split <;> omega
    have hlen : (zs.take l).length = l := by rw [List.length_take]; omega
    refine ⟨some x, zs.take l, c, by rw [hlen]; exact hcs, ⟨by simp [i64s], fun a ha j u hu => ?_, fun h => (by cases h)⟩⟩
    cases ha
    have hj : j < l := by
      have := (List.getElem?_eq_some_iff.1 hu).1
      simp only [i64s, List.length_map, hlen] at this
      exact this
    rw [hcell j (by omega)]
    simp only [i64s, List.getElem?_map, List.getElem?_take, hj, if_true] at hu
    rw [List.getElem?_eq_getElem (by omega)] at hu
    simp only [Option.map_some, Option.some.injEq] at hu
    rw [← hu, List.getD_eq_getElem?_getD, List.getElem?_eq_getElem (by omega)]
    rfl
theorem keep_in {r : Reach} {b0 : Nat} {v : Value} {d : DataW H} {ps : List MemPlace} (hval : Value.okWide Try.prog w r b0 22 v) (hd : DataW.Trod enc Try.prog w 0 (fun _ => true) true 22 v d ps) :
    ∃ (B : Option Addr) (l : List Int) (c : Nat), v = .slice B l.length c ∧ Rd w B l.length 1 (i64s l) := by
  obtain ⟨A, len, cap, rfl⟩ := okWide_slice Try.underlying22 hval
  obtain ⟨fuel, hf⟩ := hd
  obtain ⟨B, l, c, h1, h2⟩ := ints_of hf
  simp [Value.cells] at h1
  obtain ⟨rfl, rfl, rfl⟩ := h1
  exact ⟨A, l, cap, rfl, h2⟩
/-- Bytes that came in. -/
theorem bytes_of {base : Nat} {spare : Nat → Bool} {held : Bool} {n : Nat} {cs : List Value} {y : DataW H × List MemPlace} (h : DataW.trod enc Try.prog w base spare held n 34 cs = some y) :
    ∃ (B : Option Addr) (b : List UInt8) (c : Nat), cs = [.slice B b.length c] ∧ Rd w B b.length 1 (u8s b) ∧ b.length ≤ c := by
  rcases open_ints Try.underlying34 Try.underlying5 cB h with ⟨hcs, _⟩ | ⟨x, l, c, zs, hcs, _, hl, hm, hz, hdd, hcell, hwz⟩
  · exact ⟨none, [], 0, hcs, ⟨rfl, fun _ h => (by cases h), fun _ => rfl⟩, Nat.le_refl _⟩
  · have hzl : l ≤ zs.length := by rw [hz]; split <;> omega
    obtain ⟨b, hb⟩ := wf8s (zs := zs.take l) (fun n hn => hwz n (List.mem_of_mem_take hn))
    have hlen : b.length = l := by
      have := congrArg List.length hb
      simp at this; omega
    refine ⟨some x, b, c, by rw [hlen]; exact hcs, ⟨by simp [u8s], fun a ha j u hu => ?_, fun h => (by cases h)⟩, by omega⟩
    cases ha
    have hj : j < b.length := by
      have := (List.getElem?_eq_some_iff.1 hu).1
      simpa [u8s] using this
    rw [hcell j (by omega)]
    have h1 : (zs.take l)[j]? = some ((b[j]'hj).toNat : Int) := by rw [hb]; simp [hj]
    have h2 : zs[j]? = some ((b[j]'hj).toNat : Int) := by rw [← h1, List.getElem?_take, if_pos (by omega)]
    have h3 : u = .int .u8 ((b[j]'hj).toNat : Int) := by
      simp [u8s, List.getElem?_map, List.getElem?_eq_getElem hj] at hu
      exact hu.symm
    rw [h3, List.getD_eq_getElem?_getD, h2]; rfl
/-- Lists of bytes that came in. -/
theorem lists_in {r : Reach} {b0 : Nat} {v : Value} {d : DataW H} {ps : List MemPlace} (hval : Value.okWide Try.prog w r b0 29 v) (hd : DataW.Trod enc Try.prog w 0 (fun _ => true) true 29 v d ps) :
    ∃ (A : Option Addr) (xs : List Value) (bs : List Blk) (c : Nat), v = .slice A bs.length c ∧ Rd w A bs.length 1 xs ∧ Lsw w [] xs bs := by
  obtain ⟨A, len, cap, rfl⟩ := okWide_slice Try.underlying29 hval
  obtain ⟨fuel, hf⟩ := hd
  rcases DataW.trod_slice Try.underlying29 hf with ⟨hcs, _⟩ | ⟨a, l, c, elems, rest, n, _, hcs, hdd, _, _, _, hlen, hel, _, _⟩
  · simp [Value.cells] at hcs
    obtain ⟨rfl, rfl, rfl⟩ := hcs
    exact ⟨none, [], [], 0, rfl, ⟨rfl, fun _ h => (by cases h), fun _ => rfl⟩, Lsw.nil _ _⟩
  · simp [Value.cells] at hcs
    obtain ⟨rfl, rfl, rfl⟩ := hcs
    obtain ⟨s, hs, hR⟩ := list_of (R := fun i (o : Value × Blk) => w.cell? (a.add i) = some o.1 ∧ ∃ (B : Option Addr) (c : Nat), o.1 = .slice B o.2.length c ∧ Rd w B o.2.length 1 (u8s o.2)) len (by
      intro i hi
      have hb := hel i hi
      rw [cU, List.getElem?_eq_getElem (by omega), Option.bind_eq_some_iff] at hb
      obtain ⟨cs', hcs, hy'⟩ := hb
      obtain ⟨B, b, c2, e1, h1, _⟩ := bytes_of hy'
      refine ⟨(.slice B b.length c2, b), ?_, B, c2, rfl, h1⟩
      have := (World.cells?_some hcs).2.2 0 (by decide)
      rw [Nat.mul_one, e1] at this
      rw [← Addr.add_zero' (a.add i)]
      exact this)
    have hl2 : (s.map (·.2)).length = len := by simp [hs]
    refine ⟨some a, s.map (·.1), s.map (·.2), cap, by rw [hl2], ⟨by simp, ?_, fun h => (by cases h)⟩, by simp, ?_⟩
    · intro a' ha k u hu
      cases ha
      obtain ⟨o, ho, rfl⟩ := List.getElem?_map .. ▸ hu |> fun h => Option.map_eq_some_iff.1 h
      obtain ⟨hlt, he⟩ := List.getElem?_eq_some_iff.1 ho
      have := (hR k hlt).1
      rw [he] at this
      exact this
    · intro i hi
      have hi2 : i < s.length := by simpa using hi
      obtain ⟨_, B, c2, e1, h1⟩ := hR i hi2
      refine ⟨B, c2, ?_, ?_, fun _ p _ hb => (by cases hb)⟩
      · rw [List.getElem?_map, List.getElem?_eq_getElem hi2]
        simp only [List.getElem_map, Option.map_some]
        rw [e1]
      · simpa using h1
end
end Go.Proofs.Ytgkciibfpenjpaa
