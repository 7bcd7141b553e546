/-
  Plain functions and laws of layer 2: numbers as bytes; small laws on the machine's arithmetic.
-/
import Derived.Test.YtbninklfoogmdaaFun
namespace Go.Proofs.Ytbninklfoogmdaa
open Go Go.RowKit

/-- Bytes as cells. -/
def u8s (l : List UInt8) : List Value := l.map fun c => .int .u8 (c.toNat : Int)
theorem u8s_length (l : List UInt8) : (u8s l).length = l.length := by simp [u8s]
theorem u8s_length1 (l : List UInt8) : (u8s l).length = l.length * 1 := by simp [u8s]
theorem u8s_append (a b : List UInt8) : u8s (a ++ b) = u8s a ++ u8s b := by simp [u8s]
theorem u8s_one (c : UInt8) : u8s [c] = [.int .u8 (c.toNat : Int)] := rfl
theorem u8s_one' (l : List UInt8) : (u8s l).all (·.oneCell') = true := by simp [u8s, Value.oneCell']
theorem u8s_get {l : List UInt8} {i : Nat} (h : i < l.length) : (u8s l)[i]? = some (.int .u8 (l[i].toNat : Int)) := by simp [u8s, h]
theorem u8s_inj {a b : List UInt8} (h : u8s a = u8s b) : a = b := by
  induction a generalizing b with
  | nil => cases b with
    | nil => rfl
    | cons _ _ => simp [u8s] at h
  | cons x a ih => cases b with
    | nil => simp [u8s] at h
    | cons y b =>
      simp only [u8s, List.map_cons, List.cons.injEq, Value.int.injEq, true_and] at h
      have h1 : x = y := UInt8.toNat_inj.1 (by omega)
      rw [h1, ih h.2]

/-- A number as bytes: seven bits a byte, the lowest first. -/
def enc (v : Nat) : List UInt8 := if v < 128 then [UInt8.ofNat v] else UInt8.ofNat (v % 128 + 128) :: enc (v / 128)
termination_by v
decreasing_by omega
theorem enc_lt {v : Nat} (h : v < 128) : enc v = [UInt8.ofNat v] := by rw [enc, if_pos h]
theorem enc_ge {v : Nat} (h : 128 ≤ v) : enc v = UInt8.ofNat (v % 128 + 128) :: enc (v / 128) := by rw [enc, if_neg (by omega)]
theorem enc_len (k : Nat) : ∀ v, v < 128 ^ (k + 1) → (enc v).length ≤ k + 1 := by
  induction k with
  | zero => intro v h; rw [enc_lt (by simpa using h)]; simp
  | succ k ih =>
    intro v h
    by_cases hv : v < 128
    · rw [enc_lt hv]; simp
    · rw [enc_ge (by omega), List.length_cons]
      have := ih (v / 128) (by rw [Nat.div_lt_iff_lt_mul (by omega)]; rw [Nat.pow_succ] at h; exact h)
      omega
theorem enc_len64 {v : Nat} (h : v < 2 ^ 64) : (enc v).length ≤ 10 := enc_len 9 v (Nat.lt_of_lt_of_le h (by decide))
theorem enc_pos (v : Nat) : 0 < (enc v).length := by
  by_cases h : v < 128
  · rw [enc_lt h]; simp
  · rw [enc_ge (by omega)]; simp

theorem u8n {n : Nat} (h : n < 256) : (UInt8.ofNat n).toNat = n := UInt8.toNat_ofNat_of_lt' h

/-! Arithmetic of the machine, in natural numbers. -/
theorem u8w (v : Nat) : IntKind.u8.wrap (v : Int) = ((v % 256 : Nat) : Int) := by rw [IntKind.wrap_u8]; omega
theorem u64w (v : Nat) : IntKind.u64.wrap (v : Int) = ((v % 2 ^ 64 : Nat) : Int) := by rw [IntKind.wrap_u64]; omega
theorem shr_nat (v k b : Nat) : ((v : Int)).fdiv (2 ^ (min ((k : Int)).toNat b)) = ((v / 2 ^ (min k b) : Nat) : Int) := by
  rw [Int.toNat_natCast]
  have h : (2 : Int) ^ (min k b) = ((2 ^ (min k b) : Nat) : Int) := by simp
  rw [h]
  exact (Int.ofNat_fdiv v _).symm
theorem shr7 (v : Nat) : ((v : Int)).fdiv (2 ^ (min (7 : Int).toNat IntKind.u64.bits)) = ((v / 128 : Nat) : Int) := shr_nat v 7 64
theorem ofInt_toNat (k : IntKind) (a : Nat) (ha : a < 2 ^ k.bits) : (BitVec.ofInt k.bits (a : Int)).toNat = a := by
  rw [BitVec.ofInt_natCast, BitVec.toNat_ofNat]; exact Nat.mod_eq_of_lt ha
theorem wrap_u {k : IntKind} (hk : k.signed = false) (n : Nat) (h : n < 2 ^ k.bits) : k.wrap (n : Int) = n := by
  simp only [IntKind.wrap, hk]
  have : ((2 : Int) ^ k.bits) = ((2 ^ k.bits : Nat) : Int) := by simp
  simp only [Bool.false_and, Bool.false_eq_true, if_false, this]
  rw [← Int.natCast_emod, Nat.mod_eq_of_lt h]
theorem bits_or {k : IntKind} (hk : k.signed = false) (a b : Nat) (ha : a < 2 ^ k.bits) (hb : b < 2 ^ k.bits) : bits .or k (a : Int) (b : Int) = ((a ||| b : Nat) : Int) := by
  simp only [bits, BitVec.toNat_or, ofInt_toNat k a ha, ofInt_toNat k b hb]
  exact wrap_u hk _ (Nat.or_lt_two_pow ha hb)
theorem bits_and {k : IntKind} (hk : k.signed = false) (a b : Nat) (ha : a < 2 ^ k.bits) (hb : b < 2 ^ k.bits) : bits .and k (a : Int) (b : Int) = ((a &&& b : Nat) : Int) := by
  simp only [bits, BitVec.toNat_and, ofInt_toNat k a ha, ofInt_toNat k b hb]
  exact wrap_u hk _ (Nat.and_lt_two_pow _ hb)
theorem bits_xor {k : IntKind} (hk : k.signed = false) (a b : Nat) (ha : a < 2 ^ k.bits) (hb : b < 2 ^ k.bits) : bits .xor k (a : Int) (b : Int) = ((a ^^^ b : Nat) : Int) := by
  simp only [bits, BitVec.toNat_xor, ofInt_toNat k a ha, ofInt_toNat k b hb]
  exact wrap_u hk _ (Nat.xor_lt_two_pow ha hb)
theorem or128 (v : Nat) : bits .or .u8 ((v % 256 : Nat) : Int) 128 = ((v % 128 + 128 : Nat) : Int) := by
  have h := bits_or (k := .u8) rfl (v % 256) 128 (by show _ < 256; omega) (by decide)
  rw [show (128 : Int) = ((128 : Nat) : Int) from rfl, h]
  congr 1
  have e : v % 256 ||| 128 = (v % 128) ||| 128 := by
    apply Nat.eq_of_testBit_eq
    intro i
    rw [Nat.testBit_or, Nat.testBit_or, show (256 : Nat) = 2 ^ 8 from rfl, show (128 : Nat) = 2 ^ 7 from rfl, Nat.testBit_mod_two_pow, Nat.testBit_mod_two_pow, Nat.testBit_two_pow]
    by_cases h7 : i = 7
    · subst h7; simp
    · by_cases h : i < 7
      · simp [h, show i < 8 by omega]
      · simp [h, show ¬ i < 8 by omega]
  rw [e, show (128 : Nat) = 2 ^ 7 from rfl, Nat.or_comm]
  have := Nat.two_pow_add_eq_or_of_lt (i := 7) (b := v % 2 ^ 7) (Nat.mod_lt _ (by decide)) 1
  simp only [Nat.mul_one] at this
  rw [← this, Nat.add_comm]
theorem and127 (c : Nat) (h : c < 256) : bits .and .u8 (c : Int) 127 = ((c % 128 : Nat) : Int) := by
  have h1 := bits_and (k := .u8) rfl c 127 h (by decide)
  rw [show (127 : Int) = ((127 : Nat) : Int) from rfl, h1]
  congr 1
  rw [show (127 : Nat) = 2 ^ 7 - 1 from rfl, Nat.and_two_pow_sub_one_eq_mod]
theorem and1 (v : Nat) (h : v < 2 ^ 64) : bits .and .u64 (v : Int) 1 = ((v % 2 : Nat) : Int) := by
  have h1 := bits_and (k := .u64) rfl v 1 h (by decide)
  rw [show (1 : Int) = ((1 : Nat) : Int) from rfl, h1]
  congr 1
  rw [show (1 : Nat) = 2 ^ 1 - 1 from rfl, Nat.and_two_pow_sub_one_eq_mod]
theorem pow_le_of {a b : Nat} (h : a ≤ b) : 2 ^ a ≤ 2 ^ b := Nat.pow_le_pow_right (by omega) h
/-- What a byte adds to a number. -/
theorem place_lt {c i : Nat} (hi : i ≤ 9) (hc : c < 128) (h9 : i = 9 → c ≤ 1) : c * 2 ^ (7 * i) + 2 ^ (7 * i) ≤ 2 ^ 64 := by
  rcases Nat.lt_or_ge i 9 with h | h
  · have h1 : (c + 1) * 2 ^ (7 * i) ≤ 128 * 2 ^ (7 * i) := Nat.mul_le_mul_right _ (by omega)
    have h2 : 128 * 2 ^ (7 * i) = 2 ^ (7 * i + 7) := by rw [Nat.pow_add]; omega
    have h3 : 2 ^ (7 * i + 7) ≤ 2 ^ 64 := pow_le_of (by omega)
    rw [Nat.add_mul] at h1
    omega
  · have h9' : i = 9 := by omega
    subst h9'
    have := h9 rfl
    have h1 : (c + 1) * 2 ^ 63 ≤ 2 * 2 ^ 63 := Nat.mul_le_mul_right _ (by omega)
    omega
theorem shl7 {c i : Nat} (hi : i ≤ 9) (hc : c < 128) (h9 : i = 9 → c ≤ 1) : IntKind.u64.wrap ((c : Int) * 2 ^ (min (7 * (i : Int)).toNat IntKind.u64.bits)) = ((c * 2 ^ (7 * i) : Nat) : Int) := by
  have e : min (7 * (i : Int)).toNat IntKind.u64.bits = 7 * i := by
    show min (7 * (i : Int)).toNat 64 = 7 * i
    omega
  rw [e]
  have e2 : (c : Int) * 2 ^ (7 * i) = ((c * 2 ^ (7 * i) : Nat) : Int) := by simp
  rw [e2, u64w, Nat.mod_eq_of_lt]
  have := place_lt hi hc h9
  have := Nat.two_pow_pos (7 * i)
  omega
theorem or_place {v c i : Nat} (hi : i ≤ 9) (hc : c < 128) (h9 : i = 9 → c ≤ 1) (hv : v < 2 ^ (7 * i)) : bits .or .u64 (v : Int) ((c * 2 ^ (7 * i) : Nat) : Int) = ((v + c * 2 ^ (7 * i) : Nat) : Int) := by
  have hp := place_lt hi hc h9
  have h0 := Nat.two_pow_pos (7 * i)
  have h64 : 2 ^ (7 * i) ≤ 2 ^ 64 := pow_le_of (by omega)
  rw [bits_or (k := .u64) rfl _ _ (by show _ < 2 ^ 64; omega) (by show _ < 2 ^ 64; omega)]
  congr 1
  rw [Nat.mul_comm c, Nat.or_comm, ← Nat.two_pow_add_eq_or_of_lt hv, Nat.add_comm]

theorem place_next {v c i : Nat} (hc : c < 128) (hv : v < 2 ^ (7 * i)) : v + c * 2 ^ (7 * i) < 2 ^ (7 * (i + 1)) := by
  have e : 2 ^ (7 * (i + 1)) = 128 * 2 ^ (7 * i) := by rw [Nat.mul_add, Nat.pow_add]; omega
  have h3 : (c + 1) * 2 ^ (7 * i) ≤ 128 * 2 ^ (7 * i) := Nat.mul_le_mul_right _ (by omega)
  rw [Nat.add_mul] at h3
  omega
/-- The number with which bytes begin, from the i-th of them on: the number, how many bytes it takes, or the fault. -/
def numGo : List UInt8 → Nat → Nat → Nat × Nat × Nat
  | [], _, _ => (0, 0, 20)
  | c :: l, i, v =>
    if i = 9 ∧ 1 < c.toNat then (0, 0, 21)
    else if 128 ≤ c.toNat then numGo l (i + 1) (v + c.toNat % 128 * 2 ^ (7 * i))
    else if c.toNat = 0 ∧ 0 < i then (0, 0, 21)
    else (v + c.toNat % 128 * 2 ^ (7 * i), i + 1, 0)
def numOf (b : List UInt8) : Nat × Nat × Nat := numGo b 0 0
theorem numOf_eq (b : List UInt8) : numOf b = numGo b 0 0 := rfl
theorem numGo_bd : ∀ (l : List UInt8) (i v : Nat), i ≤ 9 → v < 2 ^ (7 * i) → (numGo l i v).1 < 2 ^ 64 ∧ (numGo l i v).2.1 ≤ i + l.length ∧ (numGo l i v).2.1 ≤ 10 ∧ ((numGo l i v).2.2 = 0 ∨ (numGo l i v).2.2 = 20 ∨ (numGo l i v).2.2 = 21) ∧ ((numGo l i v).2.2 ≠ 0 → (numGo l i v).1 = 0 ∧ (numGo l i v).2.1 = 0) ∧ ((numGo l i v).2.2 = 0 → i < (numGo l i v).2.1)
  | [], i, v, _, _ => by simp [numGo]
  | c :: l, i, v, hi, hv => by
    unfold numGo
    split
    · simp
    · rename_i h1
      have hp := place_lt (c := c.toNat % 128) hi (by omega) (by intro h9; omega)
      split
      · rename_i h2
        have h9 : i ≠ 9 := by rintro rfl; exact h1 ⟨rfl, by omega⟩
        have hv' : v + c.toNat % 128 * 2 ^ (7 * i) < 2 ^ (7 * (i + 1)) := by
          have e : 2 ^ (7 * (i + 1)) = 128 * 2 ^ (7 * i) := by rw [Nat.mul_add, Nat.pow_add]; omega
          have h3 : (c.toNat % 128 + 1) * 2 ^ (7 * i) ≤ 128 * 2 ^ (7 * i) := Nat.mul_le_mul_right _ (by omega)
          rw [Nat.add_mul] at h3
          omega
        have ih := numGo_bd l (i + 1) _ (by omega) hv'
        simp only [List.length_cons]
        refine ⟨ih.1, by omega, ih.2.2.1, ih.2.2.2.1, ih.2.2.2.2.1, fun h => by have := ih.2.2.2.2.2 h; omega⟩
      · split
        · simp
        · simp only [List.length_cons]
          refine ⟨by omega, by omega, by omega, by simp, by simp, by omega⟩
theorem numOf_bd (b : List UInt8) : (numOf b).1 < 2 ^ 64 ∧ (numOf b).2.1 ≤ b.length ∧ (numOf b).2.1 ≤ 10 ∧ ((numOf b).2.2 = 0 ∨ (numOf b).2.2 = 20 ∨ (numOf b).2.2 = 21) ∧ ((numOf b).2.2 ≠ 0 → (numOf b).1 = 0 ∧ (numOf b).2.1 = 0) ∧ ((numOf b).2.2 = 0 → 0 < (numOf b).2.1) := by
  have := numGo_bd b 0 0 (by omega) (by decide)
  simpa [numOf] using this
/-- An int as a number. -/
def zig (n : Int) : Nat := if n < 0 then (-2 * n - 1).toNat else (2 * n).toNat
def encInt (n : Int) : List UInt8 := enc (zig n)
def encText (b : List UInt8) : List UInt8 := enc b.length ++ b
/-- A slice of bytes in memory of its own. -/
def Own (w0 w' : World) (r : Value) (l : List UInt8) : Prop :=
  ∃ g cap sp, r = .slice (hd g) l.length cap ∧ l.length ≤ cap ∧ cap * 1 ≤ (u8s l ++ sp).length ∧ (g = none → cap = 0) ∧ Hp w0 w' [] [(g, 5, u8s l ++ sp)]
/-- What counted reads. -/
def countedOf (b : List UInt8) (most : Int) : Nat × Nat × Nat :=
  if (numOf b).2.2 ≠ 0 then (0, 0, (numOf b).2.2) else if max most 0 < (numOf b).1 then (0, 0, 22) else ((numOf b).1, (numOf b).2.1, 0)
theorem compl_neg (n : Int) (h0 : -9223372036854775808 ≤ n) (h : n < 0) : bits .xor .i64 (-1) n = -n - 1 := by
  have e : n = -((((-n - 1).toNat : Nat) : Int) + 1) := by omega
  generalize hm : (-n - 1).toNat = m at e
  have hm2 : m < 2 ^ 63 := by omega
  subst e
  simp only [bits]
  have e1 : BitVec.ofInt 64 (-((m : Int) + 1)) = ~~~ (BitVec.ofNat 64 m) := by
    apply BitVec.eq_of_toNat_eq
    rw [BitVec.toNat_ofInt, BitVec.toNat_not, BitVec.toNat_ofNat, Nat.mod_eq_of_lt (by omega)]
    omega
  have e2 : BitVec.ofInt 64 (-1) = BitVec.allOnes 64 := by decide
  show IntKind.i64.wrap ((BitVec.ofInt 64 (-1) ^^^ BitVec.ofInt 64 (-((m : Int) + 1))).toNat : Int) = _
  rw [e1, e2, BitVec.allOnes_xor, BitVec.not_not, BitVec.toNat_ofNat, Nat.mod_eq_of_lt (by omega), IntKind.wrap_i64]
  omega
theorem shl1 (n : Nat) (h : n < 2 ^ 63) : IntKind.u64.wrap ((n : Int) * 2 ^ (min (1 : Int).toNat IntKind.u64.bits)) = ((2 * n : Nat) : Int) := by
  have e : min (1 : Int).toNat IntKind.u64.bits = 1 := rfl
  rw [e, show ((n : Int) * 2 ^ 1) = ((2 * n : Nat) : Int) by omega, u64w, Nat.mod_eq_of_lt (by omega)]
theorem or1 (n : Nat) (h : n < 2 ^ 63) : bits .or .u64 ((2 * n : Nat) : Int) 1 = ((2 * n + 1 : Nat) : Int) := by
  rw [show (1 : Int) = ((1 : Nat) : Int) from rfl, bits_or (k := .u64) rfl _ _ (by show _ < 2 ^ 64; omega) (by decide)]
  congr 1
  have := Nat.two_pow_add_eq_or_of_lt (i := 1) (b := 1) (by decide) n
  rw [this]
  
theorem countedOf_f {b : List UInt8} {most : Int} (h : (numOf b).2.2 ≠ 0) : countedOf b most = (0, 0, (numOf b).2.2) := by unfold countedOf; rw [if_pos h]
theorem countedOf_l {b : List UInt8} {most : Int} (h : (numOf b).2.2 = 0) (h2 : max most 0 < (numOf b).1) : countedOf b most = (0, 0, 22) := by unfold countedOf; rw [if_neg (by omega), if_pos h2]
theorem countedOf_t {b : List UInt8} {most : Int} (h : (numOf b).2.2 = 0) (h2 : ¬ max most 0 < (numOf b).1) : countedOf b most = ((numOf b).1, (numOf b).2.1, 0) := by unfold countedOf; rw [if_neg (by omega), if_neg h2]
theorem encInt_eq (n : Int) : encInt n = enc (zig n) := rfl
theorem encText_eq (b : List UInt8) : encText b = enc b.length ++ b := rfl
/-- A call that hands back bytes of its own. -/
theorem ops_call_own {P : Program} {ds : List Deferred} {Q : Post} {K : List Value → World → Prop} {all os : List Oper} {l : List Value} {w : World} {op : Op} {ty : TypeId} {pos : String} {af : Array Edge} {d : Tmp}
    {f : FuncId} {args : Array Value} {bs : List UInt8} (hx : Ex P l op ty w (.enter f args) w) (hc : Does P f args w fun r w' => Own w w' r bs)
    (h : ∀ w' g cap sp, bs.length ≤ cap → cap * 1 ≤ (u8s bs ++ sp).length → (g = none → cap = 0) → Hp w w' [] [(g, 5, u8s bs ++ sp)] → Ops P ds all K Q os (l.set d (.slice (hd g) bs.length cap)) w') :
    Ops P ds all K Q (⟨some d, op, ty, pos, af, none⟩ :: os) l w :=
  ops_call hx hc fun r w' ⟨g, cap, sp, h1, h2, h3, h4, h5⟩ => by rw [h1]; exact h w' g cap sp h2 h3 h4 h5
attribute [irreducible] numOf countedOf encInt encText zig
end Go.Proofs.Ytbninklfoogmdaa
