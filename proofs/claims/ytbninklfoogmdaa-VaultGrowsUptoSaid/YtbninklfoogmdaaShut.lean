/-
  What a row's step needs of arguments that came in: a slice of bytes, with its size.
-/
import Derived.Test.YtbninklfoogmdaaCodecFns
import Derived.Test.YtbninklfoogmdaaMem
import Derived.WalkKit
import Derived.ProofKit
import Derived.OpenShut
import Derived.Carry
import Derived.SizedLaws
namespace Go.Proofs.Ytbninklfoogmdaa
open Go Go.ChangeShapes Go.WideShapes Go.ChangeAt Go.RowKit
section
variable {H : Type} {enc : TypeId × Value → H} {P : Program} {w : World} {base : Nat} {spare : Nat → Bool} {held : Bool}
theorem wf8 {n : Int} (h : (Lit.int .u8 n).wf = true) : ∃ c : UInt8, n = (c.toNat : Int) := by
  simp only [Lit.wf, Bool.and_eq_true, decide_eq_true_eq] at h
  have h1 : IntKind.u8.min = 0 := rfl
  have h2 : IntKind.u8.max = 255 := rfl
  refine ⟨UInt8.ofNat n.toNat, ?_⟩
  have : (UInt8.ofNat n.toNat).toNat = n.toNat := by simp; omega
  rw [this]; omega
theorem wf8s : ∀ {zs : List Int}, (∀ n ∈ zs, (Lit.int .u8 n).wf = true) → ∃ b : List UInt8, zs = b.map fun c => (c.toNat : Int)
  | [], _ => ⟨[], rfl⟩
  | z :: zs, h => by
    obtain ⟨c, hc⟩ := wf8 (h z (by simp))
    obtain ⟨b, hb⟩ := wf8s (fun n hn => h n (List.mem_cons_of_mem _ hn))
    exact ⟨c :: b, by rw [hc, hb]; rfl⟩
/-- A slice of bytes: its bytes, where they lie. -/
theorem bytes_in {r : Reach} {b0 : Nat} {t e : TypeId} {v : Value} {d : DataW H} {ps : List MemPlace} (ht : P.underlying t = some (.slice e)) (he : P.underlying e = some (.int .u8)) (hc : P.cellsOf e = 1)
    (hval : Value.okWide P w r b0 t v) (hd : DataW.Trod enc P w 0 (fun _ => true) true t v d ps) :
    ∃ (A : Option Addr) (b : List UInt8) (c : Nat), v = .slice A b.length c ∧ Rd w A b.length 1 (u8s b) ∧ b.length ≤ c ∧ (b.length = 0 ∨ ∃ x y, d = .slice x y ∧ x.length = b.length) := by
  obtain ⟨A, len, cap, rfl⟩ := okWide_slice ht hval
  obtain ⟨fuel, hf⟩ := hd
  rcases open_ints ht he hc hf with ⟨hcs, _⟩ | ⟨x, l, c, zs, hcs, _, hl, hm, hz, hdd, hcell, hwz⟩
  · simp [Value.cells] at hcs
    obtain ⟨rfl, rfl, rfl⟩ := hcs
    exact ⟨none, [], 0, rfl, ⟨rfl, fun _ h => (by cases h), fun _ => rfl⟩, Nat.le_refl _, .inl rfl⟩
  · simp [Value.cells] at hcs
    obtain ⟨rfl, rfl, rfl⟩ := hcs
    rw [if_pos rfl] at hz
    obtain ⟨b, hb⟩ := wf8s (zs := zs.take len) (fun n hn => hwz n (List.mem_of_mem_take hn))
    have hlen : b.length = len := by
      have := congrArg List.length hb
      simp at this; omega
    refine ⟨some x, b, cap, by rw [hlen], ⟨by simp [u8s], fun a ha j u hu => ?_, fun h => (by cases h)⟩, by omega, .inr ⟨lits .u8 (zs.take len), lits .u8 (zs.drop len), (Prod.mk.inj hdd).1, by simp [lits]; omega⟩⟩
    cases ha
    have hj : j < b.length := by
      have := (List.getElem?_eq_some_iff.1 hu).1
      simpa [u8s] using this
    rw [hcell j (by omega)]
    have h1 : (zs.take len)[j]? = some ((b[j]'hj).toNat : Int) := by rw [hb]; simp [hj]
    have h2 : zs[j]? = some ((b[j]'hj).toNat : Int) := by rw [← h1, List.getElem?_take, if_pos (by omega)]
    have h3 : u = .int .u8 ((b[j]'hj).toNat : Int) := by
      simp [u8s, List.getElem?_map, List.getElem?_eq_getElem hj] at hu
      exact hu.symm
    rw [h3, List.getD_eq_getElem?_getD, h2]; rfl
/-- .. and how many at most. -/
theorem bytes_most {ts : List TypeId} {ds : List (DataW H)} (h : (DataW.weightsEach P ts ds).all (· ≤ reachBytes) = true) {j : Nat} {t e : TypeId} {d : DataW H} {n : Nat} (ht : ts[j]? = some t) (hd : ds[j]? = some d) (hu : P.underlying t = some (.slice e)) (hb : P.bytesOf e = 1)
    (hx : n = 0 ∨ ∃ x y, d = .slice x y ∧ x.length = n) : n ≤ 140737488351232 := by
  rcases hx with rfl | ⟨x, y, rfl, hx⟩
  · omega
  · have := sized_slice h ht hd hu
    rw [hb] at this
    simp only [reachBytes] at this
    omega
end
end Go.Proofs.Ytbninklfoogmdaa
