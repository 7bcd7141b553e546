/-
  Sums and frames, plain; the table in memory; arithmetic of 32 bits.
-/
import Derived.Test.YtlglenbmpikhmaaDoorCrc
namespace Go.Proofs.YtlglenbmpikhmaaDoor
open Go Go.RowKit

/-! ### Arithmetic of 32 bits -/
theorem and32 (x y : BitVec 32) : bits .and .u32 (x.toNat : Int) (y.toNat : Int) = ((x &&& y).toNat : Int) := by
  rw [bits_and (k := .u32) rfl _ _ x.isLt y.isLt, BitVec.toNat_and]
theorem or32 (x y : BitVec 32) : bits .or .u32 (x.toNat : Int) (y.toNat : Int) = ((x ||| y).toNat : Int) := by
  rw [bits_or (k := .u32) rfl _ _ x.isLt y.isLt, BitVec.toNat_or]
theorem xor32 (x y : BitVec 32) : bits .xor .u32 (x.toNat : Int) (y.toNat : Int) = ((x ^^^ y).toNat : Int) := by
  rw [bits_xor (k := .u32) rfl _ _ x.isLt y.isLt, BitVec.toNat_xor]
theorem shr32 (x : BitVec 32) (k : Nat) (hk : k ≤ 32) : ((x.toNat : Int)).fdiv (2 ^ (min ((k : Nat) : Int).toNat IntKind.u32.bits)) = ((x >>> k).toNat : Int) := by
  have h := shr_nat x.toNat k 32
  have e : min k 32 = k := by omega
  rw [e] at h
  rw [BitVec.toNat_ushiftRight, Nat.shiftRight_eq_div_pow]
  exact h
theorem not32 (x : BitVec 32) : bits .xor .u32 (if IntKind.u32.signed then -1 else IntKind.u32.max) (x.toNat : Int) = ((~~~ x).toNat : Int) := by
  have h := xor32 (BitVec.allOnes 32) x
  rw [BitVec.allOnes_xor] at h
  exact h
def w8 (c : UInt8) : BitVec 32 := BitVec.ofNat 32 c.toNat
theorem w8_toNat (c : UInt8) : (w8 c).toNat = c.toNat := by
  have := c.toNat_lt
  simp [w8]
theorem conv8 (c : UInt8) : IntKind.u32.wrap (c.toNat : Int) = ((w8 c).toNat : Int) := by
  have := c.toNat_lt
  rw [w8_toNat, IntKind.wrap_u32]; omega
def h8 (c : UInt8) : BitVec 32 := BitVec.ofNat 32 (c.toNat / 16)
theorem h8_toNat (c : UInt8) : (h8 c).toNat = c.toNat / 16 := by
  have := c.toNat_lt
  simp [h8]; omega
theorem convh (c : UInt8) : IntKind.u32.wrap ((c.toNat / 16 : Nat) : Int) = ((h8 c).toNat : Int) := by
  have := c.toNat_lt
  rw [h8_toNat, IntKind.wrap_u32]; omega
theorem conv32 (v : Nat) (h : v < 2 ^ 32) : IntKind.u32.wrap (v : Int) = (v : Int) := by rw [IntKind.wrap_u32]; omega
theorem shr8_4 (v : Nat) : ((v : Int)).fdiv (2 ^ (min (4 : Int).toNat IntKind.u8.bits)) = ((v / 16 : Nat) : Int) := shr_nat v 4 8

/-! ### The table -/
def Tab (w : World) : Prop := ∀ i, i < 16 → w.cell? ⟨0, i, none⟩ = some (.int .u32 ((Crc.quarter.getD i 0).toNat : Int))
theorem Tab.to {w0 w : World} {es : List Ent} (h : Tab w0) (H : Hp w0 w [] es) : Tab w := by
  intro i hi
  have hc := h i hi
  have hlt := World.block_lt_of_cell? w0 _ hc
  rw [World.cell?_of_block (w := w0)]
  · exact hc
  · exact H.frame _ hlt (by simp)
theorem Tab.cell {w : World} (h : Tab w) {x : BitVec 32} : w.cell? ((⟨0, 0, none⟩ : Addr).add ((((x &&& 15#32).toNat : Nat) : Int).toNat * 1)) = some (.int .u32 ((Crc.quarter.getD (x &&& 15#32).toNat 0).toNat : Int)) := by
  have hlt : (x &&& 15#32).toNat < 16 := by
    rw [BitVec.toNat_and]
    exact Nat.lt_of_le_of_lt Nat.and_le_right (by decide)
  have e : (⟨0, 0, none⟩ : Addr).add ((((x &&& 15#32).toNat : Nat) : Int).toNat * 1) = ⟨0, (x &&& 15#32).toNat, none⟩ := by
    rw [Int.toNat_natCast, Nat.mul_one]
    unfold Addr.add
    split
    · rename_i h0; rw [h0]
    · simp
  rw [e]
  exact h _ hlt
theorem and15 (x : BitVec 32) : ((x &&& 15#32).toNat : Int) < ((16 : Nat) : Int) := by
  have : (x &&& 15#32).toNat < 16 := by
    rw [BitVec.toNat_and]
    exact Nat.lt_of_le_of_lt Nat.and_le_right (by decide)
  omega

/-! ### Sums -/
def b8 (c : UInt8) : List Bool := (List.range 8).map fun i => c.toNat.testBit i
def bl (l : List UInt8) : List Bool := l.flatMap b8
theorem b8_length (c : UInt8) : (b8 c).length = 8 := by simp [b8]
theorem bl_append (a b : List UInt8) : bl (a ++ b) = bl a ++ bl b := by simp [bl]
theorem bl_cons (c : UInt8) (l : List UInt8) : bl (c :: l) = b8 c ++ bl l := by simp [bl]
theorem bl_length (l : List UInt8) : (bl l).length = 8 * l.length := by
  induction l with
  | nil => rfl
  | cons c l ih => rw [bl_cons, List.length_append, ih, b8_length, List.length_cons]; omega
theorem bl_get : ∀ (l : List UInt8) (i : Nat) (h : i < l.length) (k : Nat), k < 8 → (bl l)[8 * i + k]? = some (l[i].toNat.testBit k)
  | c :: l, 0, h, k, hk => by
    rw [bl_cons, List.getElem?_append_left (by rw [b8_length]; omega)]
    simp [b8, hk]
  | c :: l, i + 1, h, k, hk => by
    have := bl_get l i (by simpa using h) k hk
    rw [bl_cons, List.getElem?_append_right (by rw [b8_length]; omega), b8_length]
    rw [show 8 * (i + 1) + k - 8 = 8 * i + k by omega, this]
    rfl
def crc (s : BitVec 32) (l : List UInt8) : BitVec 32 := Crc.bits s (bl l)
theorem crc_nil (s : BitVec 32) : crc s [] = s := rfl
theorem crc_append (s : BitVec 32) (a b : List UInt8) : crc s (a ++ b) = crc (crc s a) b := by unfold crc; rw [bl_append, Crc.bits_append]
def sum (l : List UInt8) : BitVec 32 := ~~~ crc 0xFFFFFFFF#32 l
theorem win_lo : ∀ c : Fin 256, Crc.window ((List.range 4).map fun i => c.val.testBit i) = BitVec.ofNat 32 (c.val % 16) := by decide +kernel
theorem win_hi : ∀ c : Fin 256, Crc.window ((List.range 4).map fun i => c.val.testBit (4 + i)) = BitVec.ofNat 32 (c.val / 16) := by decide +kernel
theorem b8_parts (c : UInt8) : b8 c = ((List.range 4).map fun i => c.toNat.testBit i) ++ ((List.range 4).map fun i => c.toNat.testBit (4 + i)) := rfl
theorem low15 : ∀ c : Fin 256, BitVec.ofNat 32 (c.val % 16) &&& 15#32 = BitVec.ofNat 32 c.val &&& 15#32 := by decide +kernel
theorem low4 : ∀ c : Fin 16, BitVec.ofNat 32 c.val >>> 4 = 0#32 := by decide +kernel
/-- A byte by the table: its low half, then its high one. -/
theorem crc_byte (s : BitVec 32) (c : UInt8) :
    let s1 := (s >>> 4) ^^^ Crc.quarter.getD ((s ^^^ w8 c) &&& 15#32).toNat 0
    (s1 >>> 4) ^^^ Crc.quarter.getD ((s1 ^^^ h8 c) &&& 15#32).toNat 0 = crc s [c] := by
  have hc := c.toNat_lt
  have key : ∀ (s x y : BitVec 32), x >>> 4 = 0#32 → x &&& 15#32 = y &&& 15#32 → Crc.fn 4 (s ^^^ x) = (s >>> 4) ^^^ Crc.quarter.getD ((s ^^^ y) &&& 15#32).toNat 0 := by
    intro s x y h1 h2
    rw [Crc.fn4, BitVec.ushiftRight_xor_distrib, h1, BitVec.xor_zero]
    congr 3
    apply BitVec.eq_of_getLsbD_eq
    intro i hi
    have h3 := congrArg (fun z => z.getLsbD i) h2
    simp only [BitVec.getLsbD_and, BitVec.getLsbD_xor] at h3 ⊢
    cases h5 : (15#32).getLsbD i
    · simp
    · rw [h5] at h3; simp at h3; simp [h3]
  intro s1
  have e1 : Crc.bits s ((List.range 4).map fun i => c.toNat.testBit i) = s1 := by
    rw [Crc.bits_window _ _ (by simp), win_lo ⟨c.toNat, hc⟩]
    show Crc.fn (List.length _) _ = _
    rw [List.length_map, List.length_range]
    exact key s _ _ (low4 ⟨c.toNat % 16, by omega⟩) (low15 ⟨c.toNat, hc⟩)
  have e2 : crc s [c] = Crc.bits s1 ((List.range 4).map fun i => c.toNat.testBit (4 + i)) := by
    unfold crc
    rw [bl_cons, show bl [] = [] from rfl, List.append_nil, b8_parts, Crc.bits_append, e1]
  rw [e2, Crc.bits_window _ _ (by simp), win_hi ⟨c.toNat, hc⟩]
  show _ = Crc.fn (List.length _) _
  rw [List.length_map, List.length_range]
  exact (key s1 _ _ (low4 ⟨c.toNat / 16, by omega⟩) rfl).symm

/-! ### Frames -/
def four (n : Nat) : List UInt8 := [UInt8.ofNat (n % 256), UInt8.ofNat (n / 256 % 256), UInt8.ofNat (n / 65536 % 256), UInt8.ofNat (n / 16777216 % 256)]
theorem four_length (n : Nat) : (four n).length = 4 := rfl
def wordOf : List UInt8 → Nat
  | a :: b :: c :: d :: _ => a.toNat + b.toNat * 256 + c.toNat * 65536 + d.toNat * 16777216
  | _ => 0
theorem wordOf_lt (l : List UInt8) : wordOf l < 2 ^ 32 := by
  unfold wordOf
  split
  · rename_i a b c d _
    have := a.toNat_lt; have := b.toNat_lt; have := c.toNat_lt; have := d.toNat_lt
    omega
  · decide
theorem wordOf_four (n : Nat) (h : n < 2 ^ 32) (t : List UInt8) : wordOf (four n ++ t) = n := by
  simp only [four, List.cons_append, List.nil_append, wordOf, u8n (show n % 256 < 256 by omega), u8n (show n / 256 % 256 < 256 by omega), u8n (show n / 65536 % 256 < 256 by omega), u8n (show n / 16777216 % 256 < 256 by omega)]
  omega
theorem ofNat8 (a : UInt8) (n : Nat) (h : n = a.toNat) : UInt8.ofNat n = a := by subst h; simp
theorem four_wordOf {l : List UInt8} (h : 4 ≤ l.length) : four (wordOf l) = l.take 4 := by
  match l, h with
  | a :: b :: c :: d :: t, _ =>
    have := a.toNat_lt; have := b.toNat_lt; have := c.toNat_lt; have := d.toNat_lt
    simp only [wordOf, four, List.take_succ_cons, List.take_zero]
    rw [ofNat8 a _ (by omega), ofNat8 b _ (by omega), ofNat8 c _ (by omega), ofNat8 d _ (by omega)]
def frame (b : List UInt8) : List UInt8 := four b.length ++ four (sum (four b.length ++ b)).toNat ++ b
def frameOf (b : List UInt8) : List UInt8 × Nat := if 65536 < b.length then ([], 22) else (frame b, 0)
theorem frame_length (b : List UInt8) : (frame b).length = b.length + 8 := by simp [frame, four_length]; omega
def unf (b : List UInt8) : List UInt8 × Nat × Nat :=
  if b.length < 8 then ([], 0, 20) else if 65536 < wordOf b then ([], 0, 22) else if b.length < 8 + wordOf b then ([], 0, 20)
  else if (sum (b.take 4 ++ (b.drop 8).take (wordOf b))).toNat ≠ wordOf (b.drop 4) then ([], 0, 23) else ((b.drop 8).take (wordOf b), 8 + wordOf b, 0)
theorem u8s_four (n : Nat) : u8s (four n) = [.int .u8 ((n % 256 : Nat) : Int), .int .u8 ((n / 256 % 256 : Nat) : Int), .int .u8 ((n / 65536 % 256 : Nat) : Int), .int .u8 ((n / 16777216 % 256 : Nat) : Int)] := by
  simp only [u8s, four, List.map_cons, List.map_nil, u8n (show n % 256 < 256 by omega), u8n (show n / 256 % 256 < 256 by omega), u8n (show n / 65536 % 256 < 256 by omega), u8n (show n / 16777216 % 256 < 256 by omega)]
theorem tmodN (a b : Nat) : ((a : Int)).tmod (b : Int) = ((a % b : Nat) : Int) := rfl
theorem tdivN (k : IntKind) (a b : Nat) (h : k.wrap ((a / b : Nat) : Int) = ((a / b : Nat) : Int)) : k.wrap (((a : Int)).tdiv (b : Int)) = ((a / b : Nat) : Int) := h
theorem sh32 (v k m : Nat) (hm : 2 ^ k = m) (hk : k ≤ 32) (h : v * m < 2 ^ 32) : IntKind.u32.wrap ((v : Int) * 2 ^ (min ((k : Nat) : Int).toNat IntKind.u32.bits)) = ((v * m : Nat) : Int) := by
  have e : min ((k : Nat) : Int).toNat IntKind.u32.bits = k := by
    show min ((k : Nat) : Int).toNat 32 = k
    omega
  rw [e]
  have h2 : (v : Int) * 2 ^ k = ((v * m : Nat) : Int) := by rw [← hm]; simp
  rw [h2, IntKind.wrap_u32]
  omega
theorem or32N (a b k m : Nat) (hm : 2 ^ k = m) (ha : a < m) (hb : a + b * m < 2 ^ 32) : bits .or .u32 (a : Int) ((b * m : Nat) : Int) = ((a + b * m : Nat) : Int) := by
  rw [bits_or (k := .u32) rfl _ _ (by show _ < 2 ^ 32; omega) (by show _ < 2 ^ 32; omega)]
  subst hm
  have h := Nat.shiftLeft_add_eq_or_of_lt ha b
  rw [Nat.shiftLeft_eq] at h
  rw [Nat.or_comm, ← h, Nat.add_comm]
theorem bitN (v k : Nat) (hv : v < 256) (hk : k < 8) : bits .and .u32 ((v / 2 ^ (min k 8) : Nat) : Int) 1 = ((Crc.bit (v.testBit k)).toNat : Int) := by
  have e : min k 8 = k := by omega
  have hd : v / 2 ^ k ≤ v := Nat.div_le_self _ _
  have h1 := bits_and (k := .u32) rfl (v / 2 ^ k) 1 (by show _ < 2 ^ 32; omega) (by decide)
  rw [e, show (1 : Int) = ((1 : Nat) : Int) from rfl, h1]
  congr 1
  rw [Nat.and_one_is_mod, Nat.testBit_eq_decide_div_mod_eq]
  have := Nat.mod_two_eq_zero_or_one (v / 2 ^ k)
  rcases this with h | h <;> rw [h] <;> decide
theorem bit_low (s : BitVec 32) (t : Bool) : ((s &&& 1#32) ^^^ Crc.bit t).toNat = 1 ↔ (s ^^^ Crc.bit t).getLsbD 0 = true := by
  have h1 : (s &&& 1#32) = Crc.bit (s.getLsbD 0) := by
    apply BitVec.eq_of_getLsbD_eq
    intro i hi
    cases i with
    | zero => rw [BitVec.getLsbD_and]; cases h : s.getLsbD 0 <;> decide
    | succ i =>
      have : (1#32).getLsbD (i + 1) = false := by simp [BitVec.getLsbD_one]
      rw [BitVec.getLsbD_and, this]
      cases h : s.getLsbD 0 <;> simp [Crc.bit, BitVec.getLsbD_one]
  rw [h1, BitVec.getLsbD_xor]
  cases s.getLsbD 0 <;> cases t <;> decide
theorem step_shr (s : BitVec 32) (t : Bool) : (s ^^^ Crc.bit t) >>> 1 = s >>> 1 := by
  rw [BitVec.ushiftRight_xor_distrib]
  have : Crc.bit t >>> 1 = 0#32 := by cases t <;> decide
  rw [this, BitVec.xor_zero]
theorem stepT {s : BitVec 32} {t : Bool} (h : ((s &&& 1#32) ^^^ Crc.bit t).toNat = 1) : Crc.step s t = (s >>> 1) ^^^ Crc.poly := by
  unfold Crc.step Crc.f
  rw [if_pos ((bit_low s t).1 h), step_shr]
theorem stepF {s : BitVec 32} {t : Bool} (h : ((s &&& 1#32) ^^^ Crc.bit t).toNat ≠ 1) : Crc.step s t = s >>> 1 := by
  unfold Crc.step Crc.f
  rw [if_neg (fun hh => h ((bit_low s t).2 hh)), step_shr]
theorem bits_snoc {s : BitVec 32} {l : List Bool} {q : Nat} {t : Bool} (h : l[q]? = some t) : Crc.bits s (l.take (q + 1)) = Crc.step (Crc.bits s (l.take q)) t := by
  rw [List.take_add_one, h]
  simp [Crc.bits]
theorem bl_at {b : List UInt8} {q : Nat} (h : q / 8 < b.length) : (bl b)[q]? = some (b[q / 8].toNat.testBit (q % 8)) := by
  have := bl_get b (q / 8) h (q % 8) (by omega)
  rw [← this]
  congr 1
  omega
theorem crc_snoc {s : BitVec 32} {b : List UInt8} {q : Nat} (h : q < b.length) : crc s (b.take (q + 1)) = crc (crc s (b.take q)) [b[q]] := by
  rw [← crc_append, List.take_append_getElem]
theorem four_of {b : List UInt8} (h : 4 ≤ b.length) : ∃ x0 x1 x2 x3 t, b = x0 :: x1 :: x2 :: x3 :: t := by
  match b, h with
  | x0 :: x1 :: x2 :: x3 :: t, _ => exact ⟨x0, x1, x2, x3, t, rfl⟩

/-! What a frame is found to be. -/
theorem ofNat_len {n : Nat} (h : n ≤ 65536) : (BitVec.ofNat 32 n).toNat = n := by simp; omega
theorem sum_two (a b : List UInt8) : (~~~ crc (crc 0xFFFFFFFF#32 a) b) = sum (a ++ b) := by unfold sum; rw [crc_append]
section
variable {b : List UInt8}
theorem unf_short (h : b.length < 8) : unf b = ([], 0, 20) := if_pos h
theorem unf_long (h : ¬ b.length < 8) (h1 : 65536 < wordOf b) : unf b = ([], 0, 22) := (if_neg h).trans (if_pos h1)
theorem unf_less (h : ¬ b.length < 8) (h1 : ¬ 65536 < wordOf b) (h2 : b.length < 8 + wordOf b) : unf b = ([], 0, 20) := (if_neg h).trans ((if_neg h1).trans (if_pos h2))
theorem unf_sum (h : ¬ b.length < 8) (h1 : ¬ 65536 < wordOf b) (h2 : ¬ b.length < 8 + wordOf b) (h3 : (sum (b.take 4 ++ (b.drop 8).take (wordOf b))).toNat ≠ wordOf (b.drop 4)) : unf b = ([], 0, 23) := (if_neg h).trans ((if_neg h1).trans ((if_neg h2).trans (if_pos h3)))
theorem unf_ok (h : ¬ b.length < 8) (h1 : ¬ 65536 < wordOf b) (h2 : ¬ b.length < 8 + wordOf b) (h3 : ¬ (sum (b.take 4 ++ (b.drop 8).take (wordOf b))).toNat ≠ wordOf (b.drop 4)) : unf b = ((b.drop 8).take (wordOf b), 8 + wordOf b, 0) := (if_neg h).trans ((if_neg h1).trans ((if_neg h2).trans (if_neg h3)))
theorem four_inj {a c : Nat} (ha : a < 2 ^ 32) (hc : c < 2 ^ 32) (h : four a = four c) : a = c := by
  have h1 := wordOf_four a ha []
  rw [h, wordOf_four c hc []] at h1
  exact h1.symm
/-- The first eight bytes of the frame of what is told to be in it are the bytes' own just if the sum is. -/
theorem frame_eq (h : ¬ b.length < 8) (h2 : ¬ b.length < 8 + wordOf b) : (frame ((b.drop 8).take (wordOf b))).take 8 = b.take 8 ↔ (sum (b.take 4 ++ (b.drop 8).take (wordOf b))).toNat = wordOf (b.drop 4) := by
  have hl : ((b.drop 8).take (wordOf b)).length = wordOf b := by rw [List.length_take, List.length_drop]; omega
  have h4 : four (wordOf b) = b.take 4 := four_wordOf (by omega)
  have e1 : (frame ((b.drop 8).take (wordOf b))).take 8 = b.take 4 ++ four (sum (b.take 4 ++ (b.drop 8).take (wordOf b))).toNat := by
    unfold frame
    rw [hl, h4, List.take_append_of_le_length (by rw [List.length_append, four_length, List.length_take]; omega), List.take_of_length_le (by rw [List.length_append, four_length, List.length_take]; omega)]
  have e2 : b.take 8 = b.take 4 ++ four (wordOf (b.drop 4)) := by
    rw [four_wordOf (by rw [List.length_drop]; omega), show 8 = 4 + 4 from rfl, List.take_add]
  rw [e1, e2, List.append_cancel_left_eq]
  constructor
  · exact four_inj (BitVec.isLt _) (wordOf_lt _)
  · intro h; rw [h]
end
/-! Calls that hand back bytes of their own, and numbers. -/
section
variable {P : Program} {ds : List Deferred} {Q : Post} {K : List Value → World → Prop} {all os : List Oper} {l : List Value} {w : World} {op : Op} {ty : TypeId} {pos : String} {af : Array Edge} {d : Tmp} {f : FuncId} {args : Array Value} {bs : List UInt8} {k e : Int}
theorem ops_call_unf (hx : Ex P l op ty w (.enter f args) w) (hc : Does P f args w fun r w' => ∃ v, r = .tuple #[v, .int .i64 k, .int .i64 e] ∧ Own w w' v bs)
    (h : ∀ w' g cap sp, bs.length ≤ cap → cap * 1 ≤ (u8s bs ++ sp).length → (g = none → cap = 0) → Hp w w' [] [(g, 5, u8s bs ++ sp)] → Ops P ds all K Q os (l.set d (.tuple #[.slice (hd g) bs.length cap, .int .i64 k, .int .i64 e])) w') :
    Ops P ds all K Q (⟨some d, op, ty, pos, af, none⟩ :: os) l w :=
  ops_call hx hc fun r w' ⟨v, h0, g, cap, sp, h1, h2, h3, h4, h5⟩ => by rw [h0, h1]; exact h w' g cap sp h2 h3 h4 h5
theorem ops_call_frm (hx : Ex P l op ty w (.enter f args) w) (hc : Does P f args w fun r w' => ∃ v, r = .tuple #[v, .int .i64 e] ∧ Own w w' v bs)
    (h : ∀ w' g cap sp, bs.length ≤ cap → cap * 1 ≤ (u8s bs ++ sp).length → (g = none → cap = 0) → Hp w w' [] [(g, 5, u8s bs ++ sp)] → Ops P ds all K Q os (l.set d (.tuple #[.slice (hd g) bs.length cap, .int .i64 e])) w') :
    Ops P ds all K Q (⟨some d, op, ty, pos, af, none⟩ :: os) l w :=
  ops_call hx hc fun r w' ⟨v, h0, g, cap, sp, h1, h2, h3, h4, h5⟩ => by rw [h0, h1]; exact h w' g cap sp h2 h3 h4 h5
theorem own_rd {w0 : World} {S : List Nat} {es : List Ent} {i : Nat} {g : Option Nat} {T : TypeId} {b m : List UInt8} {sp : List Value} (H : Hp w0 w S es) (he : es[i]? = some (g, T, u8s (b ++ m) ++ sp)) : Rd w (hd g) b.length 1 (u8s b) :=
  H.rd (xs := u8s b) (sp := u8s m ++ sp) (by rw [he, u8s_append, List.append_assoc]) (u8s_length1 _) (by decide)
end
theorem unf_frame (b t : List UInt8) (hb : b.length ≤ 65536) : unf (frame b ++ t) = (b, b.length + 8, 0) := by
  have hl : (frame b ++ t).length = b.length + 8 + t.length := by rw [List.length_append, frame_length]
  have hf : frame b ++ t = four b.length ++ (four (sum (four b.length ++ b)).toNat ++ b ++ t) := by simp [frame]
  have hw : wordOf (frame b ++ t) = b.length := by rw [hf]; exact wordOf_four _ (by omega) _
  have h4 : (frame b ++ t).take 4 = four b.length := by rw [hf, List.take_left' (four_length _)]
  have h4d : (frame b ++ t).drop 4 = four (sum (four b.length ++ b)).toNat ++ (b ++ t) := by rw [hf, List.drop_left' (four_length _), List.append_assoc]
  have h8 : (frame b ++ t).drop 8 = b ++ t := by
    rw [show 8 = 4 + 4 from rfl, ← List.drop_drop, h4d, List.drop_left' (four_length _)]
  have ht : ((frame b ++ t).drop 8).take b.length = b := by rw [h8, List.take_left]
  rw [unf_ok (by omega) (by omega) (by omega) (by rw [hw, ht, h4, h4d, wordOf_four _ (BitVec.isLt _)]; exact fun h => h rfl), hw, ht, Nat.add_comm 8]
theorem unf_cut (b : List UInt8) (k : Nat) (hb : b.length ≤ 65536) (hk : k < b.length + 8) : unf ((frame b).take k) = ([], 0, 20) := by
  have hl : ((frame b).take k).length = k := by rw [List.length_take, frame_length]; omega
  by_cases h8 : k < 8
  · exact unf_short (by omega)
  · have hw : wordOf ((frame b).take k) = b.length := by
      have h4 : (frame b).take k = four b.length ++ ((frame b).drop 4).take (k - 4) := by
        have : (frame b).take 4 = four b.length := by
          unfold frame
          rw [List.append_assoc, List.take_left' (four_length _)]
        rw [← this, ← List.take_add, show 4 + (k - 4) = k by omega]
      rw [h4]
      exact wordOf_four _ (by omega) _
    exact unf_less (by omega) (by omega) (by omega)
end Go.Proofs.YtlglenbmpikhmaaDoor
