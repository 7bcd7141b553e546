/-
  Bits that are turned in bytes; what it does to a frame.
-/
import Derived.Test.YtlglenbmpikhmaaDoorDoorLaw
namespace Go.Proofs.YtlglenbmpikhmaaDoor
open Go Go.RowKit

def turn (l : List UInt8) (p : Nat) : List UInt8 := l.set (p / 8) (UInt8.ofNat ((l.getD (p / 8) 0).toNat ^^^ 2 ^ (p % 8)))
/-- The first q bits of x, from bit s on. -/
def tn (x : BitVec 32) (s : Nat) : Nat → List UInt8 → List UInt8
  | 0, l => l
  | q + 1, l => if x.getLsbD q then turn (tn x s q l) (s + q) else tn x s q l
def anyB (x : BitVec 32) (q : Nat) : Bool := (List.range q).any fun i => x.getLsbD i
def bt (l : List UInt8) (i : Nat) : Bool := (l.getD (i / 8) 0).toNat.testBit (i % 8)
theorem tn_zero (x : BitVec 32) (s : Nat) (l : List UInt8) : tn x s 0 l = l := rfl
theorem anyB_zero (x : BitVec 32) : anyB x 0 = false := rfl
theorem turn_length (l : List UInt8) (p : Nat) : (turn l p).length = l.length := by simp [turn]
theorem tn_length (x : BitVec 32) (s q : Nat) (l : List UInt8) : (tn x s q l).length = l.length := by
  induction q with
  | zero => rfl
  | succ q ih => simp only [tn]; split <;> simp [turn_length, ih]
theorem tn_true {x : BitVec 32} {s q : Nat} {l : List UInt8} (h : x.getLsbD q = true) : tn x s (q + 1) l = turn (tn x s q l) (s + q) := if_pos h
theorem tn_false {x : BitVec 32} {s q : Nat} {l : List UInt8} (h : ¬ x.getLsbD q = true) : tn x s (q + 1) l = tn x s q l := if_neg h
theorem anyB_true {x : BitVec 32} {q : Nat} (h : x.getLsbD q = true) : anyB x (q + 1) = true := by simp only [anyB, List.any_eq_true]; exact ⟨q, by simp, h⟩
theorem anyB_false {x : BitVec 32} {q : Nat} (h : ¬ x.getLsbD q = true) : anyB x (q + 1) = anyB x q := by
  simp only [anyB, List.range_succ, List.any_append, List.any_cons, List.any_nil, Bool.or_false]
  simp at h
  rw [show x.getLsbD q = false by simpa using h, Bool.or_false]
theorem tn_none {x : BitVec 32} {s : Nat} {l : List UInt8} : ∀ {q : Nat}, anyB x q = false → tn x s q l = l
  | 0, _ => rfl
  | q + 1, h => by
    have hq : ¬ x.getLsbD q = true := fun hh => by rw [anyB_true hh] at h; cases h
    rw [tn_false hq]
    rw [anyB_false hq] at h
    exact tn_none h
theorem byte_xor_lt (c : UInt8) (j : Nat) (hj : j < 8) : c.toNat ^^^ 2 ^ j < 256 := by
  have h1 := c.toNat_lt
  have h2 : 2 ^ j < 2 ^ 8 := Nat.pow_lt_pow_right (by omega) hj
  exact Nat.xor_lt_two_pow (n := 8) h1 h2
theorem bt_turn {l : List UInt8} {p : Nat} (hp : p < 8 * l.length) (i : Nat) : bt (turn l p) i = (bt l i ^^ decide (i = p)) := by
  have hl : p / 8 < l.length := by omega
  unfold bt turn
  by_cases h : p / 8 = i / 8
  · have e : (l.set (p / 8) (UInt8.ofNat ((l.getD (p / 8) 0).toNat ^^^ 2 ^ (p % 8)))).getD (i / 8) 0 = UInt8.ofNat ((l.getD (p / 8) 0).toNat ^^^ 2 ^ (p % 8)) := by
      rw [← h]; simp [hl]
    rw [e, u8n (byte_xor_lt _ _ (by omega)), Nat.testBit_xor, Nat.testBit_two_pow, h]
    congr 1
    apply decide_eq_decide.2
    omega
  · have e : (l.set (p / 8) (UInt8.ofNat ((l.getD (p / 8) 0).toNat ^^^ 2 ^ (p % 8)))).getD (i / 8) 0 = l.getD (i / 8) 0 := by
      simp [List.getD_eq_getElem?_getD, List.getElem?_set, h]
    rw [e, decide_eq_false (by rintro rfl; exact h rfl), Bool.xor_false]
theorem bt_tn {x : BitVec 32} {s : Nat} {l : List UInt8} (i : Nat) : ∀ {q : Nat}, s + q ≤ 8 * l.length → bt (tn x s q l) i = (bt l i ^^ (decide (s ≤ i ∧ i < s + q) && x.getLsbD (i - s)))
  | 0, _ => by rw [decide_eq_false (by omega)]; simp [tn]
  | q + 1, h => by
    have ih := bt_tn (x := x) (s := s) (l := l) i (q := q) (by omega)
    by_cases hx : x.getLsbD q = true
    · rw [tn_true hx, bt_turn (by rw [tn_length]; omega), ih]
      by_cases hi : i = s + q
      · subst hi
        rw [decide_eq_false (by omega), decide_eq_true rfl, decide_eq_true (by omega), Nat.add_sub_cancel_left, hx]
        simp
      · rw [decide_eq_false hi]
        have : decide (s ≤ i ∧ i < s + q) = decide (s ≤ i ∧ i < s + (q + 1)) := decide_eq_decide.2 (by omega)
        rw [this]; simp
    · rw [tn_false hx, ih]
      by_cases hi : i = s + q
      · subst hi
        rw [decide_eq_false (by omega), Nat.add_sub_cancel_left]
        simp [show x.getLsbD q = false by simpa using hx]
      · have : decide (s ≤ i ∧ i < s + q) = decide (s ≤ i ∧ i < s + (q + 1)) := decide_eq_decide.2 (by omega)
        rw [this]
theorem bl_bt {l : List UInt8} {i : Nat} (h : i < 8 * l.length) : (bl l)[i]? = some (bt l i) := by
  have hl : i / 8 < l.length := by omega
  rw [bl_at hl]
  unfold bt
  simp [hl]
def mask (x : BitVec 32) (s q n : Nat) : List Bool := List.replicate s false ++ (List.range q).map (fun i => x.getLsbD i) ++ List.replicate (n - (s + q)) false
theorem mask_length {x : BitVec 32} {s q n : Nat} (h : s + q ≤ n) : (mask x s q n).length = n := by simp [mask]; omega
theorem mask_get {x : BitVec 32} {s q n i : Nat} (h : s + q ≤ n) (hi : i < n) : (mask x s q n)[i]? = some (decide (s ≤ i ∧ i < s + q) && x.getLsbD (i - s)) := by
  unfold mask
  by_cases h1 : i < s
  · rw [List.append_assoc, List.getElem?_append_left (by simpa using h1), decide_eq_false (by omega)]
    simp [h1]
  · by_cases h2 : i < s + q
    · rw [List.getElem?_append_left (by simp; omega), List.getElem?_append_right (by simp; omega), decide_eq_true (by omega)]
      have : i - s < q := by omega
      simp [this]
    · have e : (List.replicate s false ++ (List.range q).map (fun i => x.getLsbD i)).length = s + q := by simp
      rw [List.getElem?_append_right (by rw [e]; omega), decide_eq_false (by omega), e, List.getElem?_replicate, if_pos (by omega)]
      simp
theorem bl_tn {x : BitVec 32} {s q : Nat} {l : List UInt8} (h : s + q ≤ 8 * l.length) : bl (tn x s q l) = List.zipWith xor (bl l) (mask x s q (8 * l.length)) := by
  apply List.ext_getElem?
  intro i
  by_cases hi : i < 8 * l.length
  · rw [bl_bt (by rw [tn_length]; exact hi), List.getElem?_zipWith, bl_bt hi, mask_get h hi]
    simp only [bt_tn i h]
  · rw [List.getElem?_eq_none (by rw [bl_length, tn_length]; omega), List.getElem?_eq_none (by rw [List.length_zipWith, bl_length]; omega)]
theorem crc_tn {x : BitVec 32} {s q : Nat} {l : List UInt8} (h : s + q ≤ 8 * l.length) (hq : q ≤ 32) (hx : anyB x q = true) (z : BitVec 32) : crc z (tn x s q l) ≠ crc z l := by
  intro he
  have h1 := Crc.bits_xor (bl l) (mask x s q (8 * l.length)) z 0#32 (by rw [bl_length, mask_length h])
  rw [BitVec.xor_zero, ← bl_tn h] at h1
  have h2 : Crc.bits 0#32 (mask x s q (8 * l.length)) ≠ 0#32 := by
    refine Crc.burst s _ _ (by simpa using hq) ?_
    simp only [anyB, List.any_eq_true] at hx
    obtain ⟨i, hi, hx⟩ := hx
    exact List.mem_map.2 ⟨i, hi, hx⟩
  apply h2
  have h3 : crc z (tn x s q l) = crc z l ^^^ Crc.bits 0#32 (mask x s q (8 * l.length)) := h1
  rw [he] at h3
  have h4 := congrArg (fun y => crc z l ^^^ y) h3
  simp only [← BitVec.xor_assoc, BitVec.xor_self, BitVec.zero_xor] at h4
  exact h4.symm
theorem tn_ne {x : BitVec 32} {s q : Nat} {l : List UInt8} (h : s + q ≤ 8 * l.length) (hx : anyB x q = true) : tn x s q l ≠ l := by
  intro he
  simp only [anyB, List.any_eq_true, List.mem_range] at hx
  obtain ⟨i, hi, hx⟩ := hx
  have := bt_tn (x := x) (l := l) (s + i) h
  rw [he, decide_eq_true (by omega), Nat.add_sub_cancel_left, hx] at this
  cases hb : bt l (s + i) <;> rw [hb] at this <;> simp at this
theorem turn_left (u v : List UInt8) (p : Nat) : turn (u ++ v) (8 * u.length + p) = u ++ turn v p := by
  have e1 : (8 * u.length + p) / 8 = u.length + p / 8 := by omega
  have e2 : (8 * u.length + p) % 8 = p % 8 := by omega
  unfold turn
  rw [e1, e2, List.set_append_right _ _ (by omega), Nat.add_sub_cancel_left, List.getD_eq_getElem?_getD, List.getElem?_append_right (by omega), Nat.add_sub_cancel_left, ← List.getD_eq_getElem?_getD]
theorem tn_left (x : BitVec 32) (u v : List UInt8) (s q : Nat) : tn x (8 * u.length + s) q (u ++ v) = u ++ tn x s q v := by
  induction q with
  | zero => rfl
  | succ q ih =>
    by_cases h : x.getLsbD q = true
    · rw [tn_true h, tn_true h, ih, Nat.add_assoc, turn_left]
    · rw [tn_false h, tn_false h, ih]
theorem turn_right (u v : List UInt8) (p : Nat) (h : p < 8 * u.length) : turn (u ++ v) p = turn u p ++ v := by
  have e1 : p / 8 < u.length := by omega
  unfold turn
  rw [List.set_append_left _ _ e1]
  congr 3
  simp [List.getD_eq_getElem?_getD, List.getElem?_append_left e1]
theorem tn_right (x : BitVec 32) (u v : List UInt8) (s q : Nat) (h : s + q ≤ 8 * u.length) : tn x s q (u ++ v) = tn x s q u ++ v := by
  induction q with
  | zero => rfl
  | succ q ih =>
    by_cases hx : x.getLsbD q = true
    · rw [tn_true hx, tn_true hx, ih (by omega), turn_right _ _ _ (by rw [tn_length]; omega)]
    · rw [tn_false hx, tn_false hx, ih (by omega)]
theorem unf_parts {n : Nat} {S B : List UInt8} (hS : S.length = 4) (hB : B.length = n) (hn : n ≤ 65536) (hne : (sum (four n ++ B)).toNat ≠ wordOf (S ++ B)) : unf (four n ++ (S ++ B)) = ([], 0, 23) := by
  have hl : (four n ++ (S ++ B)).length = n + 8 := by simp [four_length]; omega
  have hw : wordOf (four n ++ (S ++ B)) = n := wordOf_four _ (by omega) _
  have h4 : (four n ++ (S ++ B)).take 4 = four n := List.take_left' (four_length _)
  have h4d : (four n ++ (S ++ B)).drop 4 = S ++ B := List.drop_left' (four_length _)
  have h8 : ((four n ++ (S ++ B)).drop 8).take n = B := by
    rw [show 8 = 4 + 4 from rfl, ← List.drop_drop, h4d, List.drop_left' hS, ← hB, List.take_length]
  exact unf_sum (by omega) (by omega) (by omega) (by rw [hw, h4, h4d, h8]; exact hne)
theorem frame_parts (b : List UInt8) : frame b = four b.length ++ (four (sum (four b.length ++ b)).toNat ++ b) := by unfold frame; rw [List.append_assoc]
/-- Bits of the sum. -/
theorem burst_sum {b : List UInt8} {x : BitVec 32} {s q : Nat} (hb : b.length ≤ 65536) (h : s + q ≤ 32) (hx : anyB x q = true) : unf (tn x (32 + s) q (frame b)) = ([], 0, 23) := by
  have e : tn x (32 + s) q (frame b) = four b.length ++ (tn x s q (four (sum (four b.length ++ b)).toNat) ++ b) := by
    have := tn_left x (four b.length) (four (sum (four b.length ++ b)).toNat ++ b) s q
    rw [four_length] at this
    rw [frame_parts, this, tn_right _ _ _ _ _ (by rw [four_length]; omega)]
  rw [e]
  refine unf_parts (by rw [tn_length, four_length]) rfl hb ?_
  have hne := tn_ne (x := x) (s := s) (q := q) (l := four (sum (four b.length ++ b)).toNat) (by rw [four_length]; omega) hx
  intro heq
  apply hne
  have h4 := four_wordOf (l := tn x s q (four (sum (four b.length ++ b)).toNat) ++ b) (by rw [List.length_append, tn_length, four_length]; omega)
  rw [← heq, List.take_left' (by rw [tn_length, four_length])] at h4
  exact h4.symm
/-- Bits of what is framed. -/
theorem burst_data {b : List UInt8} {x : BitVec 32} {s q : Nat} (hb : b.length ≤ 65536) (h : s + q ≤ 8 * b.length) (hq : q ≤ 32) (hx : anyB x q = true) : unf (tn x (64 + s) q (frame b)) = ([], 0, 23) := by
  have e : tn x (64 + s) q (frame b) = four b.length ++ (four (sum (four b.length ++ b)).toNat ++ tn x s q b) := by
    have h1 := tn_left x (four b.length) (four (sum (four b.length ++ b)).toNat ++ b) (32 + s) q
    have h2 := tn_left x (four (sum (four b.length ++ b)).toNat) b s q
    rw [four_length] at h1 h2
    rw [show 8 * 4 + (32 + s) = 64 + s by omega] at h1
    rw [show 8 * 4 + s = 32 + s by omega] at h2
    rw [frame_parts, h1, h2]
  rw [e]
  refine unf_parts (four_length _) (tn_length _ _ _ _) hb ?_
  have h1 := tn_left x (four b.length) b s q
  rw [four_length] at h1
  have hne := crc_tn (x := x) (s := 8 * 4 + s) (q := q) (l := four b.length ++ b) (by rw [List.length_append, four_length]; omega) hq hx 0xFFFFFFFF#32
  rw [h1] at hne
  rw [wordOf_four _ (BitVec.isLt _)]
  intro heq
  apply hne
  have h5 := BitVec.eq_of_toNat_eq heq
  unfold sum at h5
  have h6 := congrArg (fun y => ~~~ y) h5
  simpa using h6
/-- What is found, whether bits were turned or not. -/
theorem burst_found {b : List UInt8} {x : BitVec 32} {s fr q : Nat} (hb : b.length ≤ 65536) (hq : q ≤ 32) (h : (fr = 32 ∧ s + q ≤ 32) ∨ (fr = 64 ∧ s + q ≤ 8 * b.length)) :
    ∃ X N E, unf (tn x (fr + s) q (frame b)) = (X, N, E) ∧ (anyB x q = true → X = [] ∧ N = 0 ∧ E = 23) ∧ (anyB x q = false → X = b ∧ E = 0) := by
  cases hx : anyB x q with
  | true =>
    refine ⟨[], 0, 23, ?_, fun _ => ⟨rfl, rfl, rfl⟩, fun h => (by cases h)⟩
    rcases h with ⟨rfl, h⟩ | ⟨rfl, h⟩
    · exact burst_sum hb h hx
    · exact burst_data hb h hq hx
  | false =>
    refine ⟨b, b.length + 8, 0, ?_, fun h => (by cases h), fun _ => ⟨rfl, rfl⟩⟩
    rw [tn_none hx]
    have := unf_frame b [] hb
    rw [List.append_nil] at this
    exact this
theorem u8s_turn {l : List UInt8} {p : Nat} {sp : List Value} (hp : p / 8 < l.length) : (u8s l ++ sp).set (p / 8) (.int .u8 ((l[p / 8].toNat ^^^ 2 ^ (p % 8) : Nat) : Int)) = u8s (turn l p) ++ sp := by
  rw [List.set_append_left _ _ (by rw [u8s_length]; exact hp)]
  congr 1
  unfold turn u8s
  rw [List.map_set]
  congr 2
  rw [u8n (byte_xor_lt _ _ (by omega))]
  simp [hp]
theorem bit_at (x : BitVec 32) (q : Nat) : ((x >>> q) &&& 1#32).toNat = 1 ↔ x.getLsbD q = true := by
  have h1 : (x >>> q) &&& 1#32 = Crc.bit (x.getLsbD q) := by
    apply BitVec.eq_of_getLsbD_eq
    intro i hi
    cases i with
    | zero => rw [BitVec.getLsbD_and, BitVec.getLsbD_ushiftRight]; cases h : x.getLsbD q <;> simp [h, Crc.bit]
    | succ i =>
      have : (1#32).getLsbD (i + 1) = false := by simp [BitVec.getLsbD_one]
      rw [BitVec.getLsbD_and, this]
      cases h : x.getLsbD q <;> simp [Crc.bit, BitVec.getLsbD_one]
  rw [h1]
  cases x.getLsbD q <;> decide
theorem shl8_one (j : Nat) (hj : j < 8) : IntKind.u8.wrap ((1 : Int) * 2 ^ (min ((j : Nat) : Int).toNat IntKind.u8.bits)) = ((2 ^ j : Nat) : Int) := by
  have e : min ((j : Nat) : Int).toNat IntKind.u8.bits = j := by
    show min ((j : Nat) : Int).toNat 8 = j
    omega
  have h2 : 2 ^ j < 2 ^ 8 := Nat.pow_lt_pow_right (by omega) hj
  rw [e, Int.one_mul, show ((2 : Int) ^ j) = ((2 ^ j : Nat) : Int) by simp, u8w, Nat.mod_eq_of_lt (by omega)]
theorem u64_nat (z : Int) : ∃ u : Nat, IntKind.u64.wrap z = (u : Int) := ⟨(IntKind.u64.wrap z).toNat, by rw [IntKind.wrap_u64]; omega⟩
theorem addz (g o : Nat) : (⟨g, 0, none⟩ : Addr).add o = ⟨g, o, none⟩ := by
  unfold Addr.add
  split
  · rename_i h; rw [h]
  · simp
end Go.Proofs.YtlglenbmpikhmaaDoor
