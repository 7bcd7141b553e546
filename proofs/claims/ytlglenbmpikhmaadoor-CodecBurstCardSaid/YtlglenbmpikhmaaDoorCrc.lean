/- Plain laws on CRC-32: the sum by quarters of a byte is the sum bit by bit; what a burst of turned bits does to it. -/
import Derived.Test.YtlglenbmpikhmaaDoorCodecLaw
namespace Go.Proofs.YtlglenbmpikhmaaDoor.Crc

def poly : BitVec 32 := 0xEDB88320#32
/-- One bit's step. -/
def f (x : BitVec 32) : BitVec 32 := if x.getLsbD 0 then (x >>> 1) ^^^ poly else x >>> 1
def fn : Nat → BitVec 32 → BitVec 32
  | 0, x => x
  | n + 1, x => fn n (f x)

theorem f_zero : f 0#32 = 0#32 := by decide
theorem f_xor (a b : BitVec 32) : f (a ^^^ b) = f a ^^^ f b := by
  unfold f
  rw [BitVec.getLsbD_xor, BitVec.ushiftRight_xor_distrib]
  cases ha : a.getLsbD 0 <;> cases hb : b.getLsbD 0 <;> simp only [Bool.xor_false, Bool.xor_true, Bool.not_true, Bool.not_false, if_true, if_false, Bool.false_eq_true]
  · rw [BitVec.xor_assoc]
  · rw [BitVec.xor_assoc, BitVec.xor_assoc, BitVec.xor_comm poly]
  · rw [BitVec.xor_assoc, BitVec.xor_comm poly, BitVec.xor_assoc, BitVec.xor_self, BitVec.xor_zero]
theorem fn_xor (n : Nat) : ∀ (a b : BitVec 32), fn n (a ^^^ b) = fn n a ^^^ fn n b := by
  induction n with
  | zero => intro a b; rfl
  | succ n ih => intro a b; simp only [fn, f_xor, ih]
theorem fn_zero (n : Nat) : fn n 0#32 = 0#32 := by
  induction n with
  | zero => rfl
  | succ n ih => simp only [fn, f_zero, ih]
theorem fn_add (m n : Nat) : ∀ x, fn (m + n) x = fn n (fn m x) := by
  induction m with
  | zero => intro x; simp [fn]
  | succ m ih => intro x; rw [Nat.succ_add]; simp only [fn, ih]

theorem f_ne_zero {x : BitVec 32} (h : x ≠ 0#32) : f x ≠ 0#32 := by
  intro h0
  apply h
  unfold f at h0
  cases hx : x.getLsbD 0
  · rw [hx] at h0
    simp at h0
    apply BitVec.eq_of_getLsbD_eq
    intro i hi
    have h1 : ∀ j, (x >>> 1).getLsbD j = false := by intro j; rw [h0]; simp
    cases i with
    | zero => simpa using hx
    | succ i => have := h1 i; rw [BitVec.getLsbD_ushiftRight] at this; rw [Nat.add_comm] at this; simpa using this
  · rw [hx] at h0
    simp at h0
    exfalso
    have h1 : (x >>> 1 ^^^ poly).getLsbD 31 = true := by
      rw [BitVec.getLsbD_xor, BitVec.getLsbD_ushiftRight, BitVec.getLsbD_of_ge x _ (by omega)]
      decide
    rw [h0] at h1
    simp at h1
theorem fn_ne_zero (n : Nat) : ∀ {x : BitVec 32}, x ≠ 0#32 → fn n x ≠ 0#32 := by
  induction n with
  | zero => intro x h; exact h
  | succ n ih => intro x h; exact ih (f_ne_zero h)

/-- Bits behind the first: what is put in one step later is put in one place higher before. -/
theorem f_low (x : BitVec 32) (h : x.getLsbD 0 = false) : f x = x >>> 1 := by unfold f; rw [h]; rfl

def bit (b : Bool) : BitVec 32 := if b then 1#32 else 0#32
/-- One bit of the message. -/
def step (s : BitVec 32) (b : Bool) : BitVec 32 := f (s ^^^ bit b)
def bits (s : BitVec 32) (l : List Bool) : BitVec 32 := l.foldl step s
/-- The bits of a window, the first the lowest. -/
def window : List Bool → BitVec 32
  | [] => 0#32
  | b :: l => bit b ^^^ (window l <<< 1)

theorem window_high (l : List Bool) : ∀ i, l.length ≤ i → (window l).getLsbD i = false := by
  induction l with
  | nil => intro i _; simp [window]
  | cons b l ih =>
    intro i hi
    simp only [List.length_cons] at hi
    obtain ⟨j, rfl⟩ : ∃ j, i = j + 1 := ⟨i - 1, by omega⟩
    rw [window, BitVec.getLsbD_xor, BitVec.getLsbD_shiftLeft]
    have h1 : (bit b).getLsbD (j + 1) = false := by
      cases b <;> simp [bit, BitVec.getLsbD_one]
    rw [h1]
    simp
    intro _
    exact ih j (by omega)
theorem bits_window (l : List Bool) : ∀ (s : BitVec 32), l.length ≤ 32 → bits s l = fn l.length (s ^^^ window l) := by
  induction l with
  | nil => intro s _; simp [bits, window, fn]
  | cons b l ih =>
    intro s hl
    simp only [List.length_cons] at hl
    have hs : bits s (b :: l) = bits (step s b) l := rfl
    rw [hs, ih _ (by omega), List.length_cons]
    show fn l.length (step s b ^^^ window l) = fn l.length (f (s ^^^ window (b :: l)))
    congr 1
    rw [window, step, ← BitVec.xor_assoc, f_xor (s ^^^ bit b)]
    congr 1
    have hlow : (window l <<< 1).getLsbD 0 = false := by simp
    rw [f_low _ hlow]
    apply BitVec.eq_of_getLsbD_eq
    intro i hi
    rw [BitVec.getLsbD_ushiftRight, BitVec.getLsbD_shiftLeft]
    by_cases h31 : i = 31
    · subst h31
      simp
      exact window_high l 31 (by omega)
    · have : i + 1 < 32 := by omega
      simp [this, Nat.add_comm 1 i]
theorem bits_append (s : BitVec 32) (a b : List Bool) : bits s (a ++ b) = bits (bits s a) b := by simp [bits]
theorem bits_zeros (n : Nat) : ∀ s, bits s (List.replicate n false) = fn n s := by
  induction n with
  | zero => intro s; rfl
  | succ n ih => intro s; rw [List.replicate_succ]; show bits (step s false) _ = _; rw [ih]; simp [step, bit, fn]
theorem window_ne_zero {l : List Bool} (hl : l.length ≤ 32) (h : true ∈ l) : window l ≠ 0#32 := by
  induction l with
  | nil => simp at h
  | cons b l ih =>
    simp only [List.length_cons] at hl
    intro h0
    rw [window] at h0
    cases b with
    | true =>
      have : (bit true ^^^ window l <<< 1).getLsbD 0 = true := by
        rw [BitVec.getLsbD_xor, BitVec.getLsbD_shiftLeft]; simp [bit]
      rw [h0] at this; simp at this
    | false =>
      have hm : true ∈ l := by simpa using h
      have hne := ih (by omega) hm
      apply hne
      simp [bit] at h0
      apply BitVec.eq_of_getLsbD_eq
      intro i hi
      by_cases h31 : i = 31
      · subst h31; rw [window_high l 31 (by omega)]; simp
      · have : (window l <<< 1).getLsbD (i + 1) = false := by rw [h0]; simp
        rw [BitVec.getLsbD_shiftLeft] at this
        have h2 : i + 1 < 32 := by omega
        simpa [h2] using this
/-- What is turned within 32 neighbouring bits, and nowhere else, turns the sum. -/
theorem burst (m k : Nat) (l : List Bool) (hl : l.length ≤ 32) (h : true ∈ l) :
    bits 0#32 (List.replicate m false ++ l ++ List.replicate k false) ≠ 0#32 := by
  rw [bits_append, bits_append, bits_zeros, bits_zeros, bits_window _ _ hl, fn_zero]
  apply fn_ne_zero
  apply fn_ne_zero
  simpa using window_ne_zero hl h
theorem step_xor (s t : BitVec 32) (a b : Bool) : step (s ^^^ t) (a ^^ b) = step s a ^^^ step t b := by
  have hb : bit (a ^^ b) = bit a ^^^ bit b := by cases a <;> cases b <;> decide
  rw [step, step, step, ← f_xor, hb]
  congr 1
  rw [BitVec.xor_assoc, BitVec.xor_assoc]
  congr 1
  rw [← BitVec.xor_assoc, BitVec.xor_comm t, BitVec.xor_assoc]
theorem bits_xor : ∀ (a b : List Bool) (s t : BitVec 32), a.length = b.length → bits (s ^^^ t) (List.zipWith xor a b) = bits s a ^^^ bits t b
  | [], [], s, t, _ => rfl
  | x :: a, y :: b, s, t, h => by
    show bits (step (s ^^^ t) (x ^^ y)) _ = _
    rw [step_xor, bits_xor a b _ _ (by simpa using h)]
    rfl
  | [], _ :: _, _, _, h => by simp at h
  | _ :: _, [], _, _, h => by simp at h

/-! ### Bytes -/
/-- The bits of a byte, the lowest first. -/
def ofByte (c : BitVec 8) : List Bool := (List.range 8).map fun i => c.getLsbD i
def ofBytes (l : List (BitVec 8)) : List Bool := l.flatMap ofByte
def quarter : List (BitVec 32) := [0x00000000, 0x1db71064, 0x3b6e20c8, 0x26d930ac, 0x76dc4190, 0x6b6b51f4, 0x4db26158, 0x5005713c, 0xedb88320, 0xf00f9344, 0xd6d6a3e8, 0xcb61b38c, 0x9b64c2b0, 0x86d3d2d4, 0xa00ae278, 0xbdbdf21c]
theorem quarter_eq : ∀ k : Fin 16, quarter.getD k.val 0 = fn 4 (BitVec.ofNat 32 k.val) := by decide
/-- Four bits at once: what stands above them is moved down, they are looked up. -/
theorem fn4 (x : BitVec 32) : fn 4 x = (x >>> 4) ^^^ quarter.getD (x &&& 15#32).toNat 0 := by
  have hlt : (x &&& 15#32).toNat < 16 := by
    rw [BitVec.toNat_and]
    exact Nat.lt_of_le_of_lt Nat.and_le_right (by decide)
  have hq := quarter_eq ⟨_, hlt⟩
  simp only [BitVec.ofNat_toNat, BitVec.setWidth_eq] at hq
  rw [hq]
  have hx : x = (x &&& ~~~15#32) ^^^ (x &&& 15#32) := by
    apply BitVec.eq_of_getLsbD_eq
    intro i hi
    simp only [BitVec.getLsbD_xor, BitVec.getLsbD_and, BitVec.getLsbD_not]
    cases x.getLsbD i <;> cases (15#32).getLsbD i <;> simp [hi]
  conv => lhs; rw [hx]
  rw [fn_xor]
  congr 1
  have hz : ∀ i, i < 4 → (x &&& ~~~15#32).getLsbD i = false := by
    intro i hi
    rw [BitVec.getLsbD_and, BitVec.getLsbD_not]
    have : (15#32).getLsbD i = true := by
      rcases i with _ | _ | _ | _ | i
      · decide
      · decide
      · decide
      · decide
      · omega
    simp [this]
  have hs : ∀ n, n ≤ 4 → fn n (x &&& ~~~15#32) = (x &&& ~~~15#32) >>> n := by
    intro n
    induction n with
    | zero => intro _; simp [fn]
    | succ n ih =>
      intro hn
      rw [fn_add n 1, ih (by omega)]
      show f _ = _
      rw [f_low, ← BitVec.shiftRight_add]
      rw [BitVec.getLsbD_ushiftRight]
      exact hz _ (by omega)
  rw [hs 4 (by omega)]
  apply BitVec.eq_of_getLsbD_eq
  intro i hi
  rw [BitVec.getLsbD_ushiftRight, BitVec.getLsbD_ushiftRight, BitVec.getLsbD_and, BitVec.getLsbD_not]
  by_cases h : 4 + i < 32
  · have : (15#32).getLsbD (4 + i) = false := by
      rw [BitVec.getLsbD_ofNat]
      have : Nat.testBit 15 (4 + i) = false := Nat.testBit_lt_two_pow (Nat.lt_of_lt_of_le (by decide : 15 < 2 ^ 4) (Nat.pow_le_pow_right (by omega) (by omega)))
      simp [this]
    rw [this]
    simp only [Bool.not_false, h, decide_true, Bool.and_true]
  · simp [BitVec.getLsbD_of_ge x (4 + i) (by omega)]
end Go.Proofs.YtlglenbmpikhmaaDoor.Crc
