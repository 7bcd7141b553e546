/-
  Plain laws of layer 2: what is written is read again; what is read has one form.
-/
import Derived.Test.YtoeobicpdeklaaaGreatRead
namespace Go.Proofs.YtoeobicpdeklaaaGreat
open Go Go.RowKit

theorem pow7 (i : Nat) : 2 ^ (7 * (i + 1)) = 128 * 2 ^ (7 * i) := by rw [Nat.mul_add, Nat.pow_add]; omega
theorem place_sum (v i : Nat) : v % 128 * 2 ^ (7 * i) + v / 128 * 2 ^ (7 * (i + 1)) = v * 2 ^ (7 * i) := by
  rw [pow7, ← Nat.mul_assoc, ← Nat.add_mul]
  congr 1
  omega
theorem numGo_enc (t : List UInt8) (v : Nat) : ∀ (i w : Nat), v * 2 ^ (7 * i) < 2 ^ 64 → (0 < i → 0 < v) → i ≤ 9 → numGo (enc v ++ t) i w = (w + v * 2 ^ (7 * i), i + (enc v).length, 0) := by
  induction v using Nat.strongRecOn with
  | _ v ih =>
    intro i w hv h0 hi
    have h9 : i = 9 → v ≤ 1 := by
      rintro rfl
      have : (2 : Nat) ^ (7 * 9) = 9223372036854775808 := by decide
      rw [this] at hv
      have : (2 : Nat) ^ 64 = 18446744073709551616 := by decide
      omega
    by_cases h : v < 128
    · rw [enc_lt h]
      simp only [List.cons_append, List.nil_append, numGo, u8n (show v < 256 by omega), List.length_cons, List.length_nil]
      rw [if_neg (by omega), if_neg (by omega), if_neg (by omega), Nat.mod_eq_of_lt h]
    · have hc : (UInt8.ofNat (v % 128 + 128)).toNat = v % 128 + 128 := u8n (by omega)
      rw [enc_ge (by omega)]
      simp only [List.cons_append, numGo, hc, List.length_cons]
      have hle : v / 128 * 2 ^ (7 * (i + 1)) ≤ v * 2 ^ (7 * i) := by have := place_sum v i; omega
      rw [if_neg (by omega), if_pos (by omega), ih (v / 128) (by omega) (i + 1) _ (by omega) (fun _ => by omega) (by omega)]
      have e1 : (v % 128 + 128) % 128 = v % 128 := by omega
      rw [e1, Nat.add_assoc w, place_sum, Nat.add_assoc, Nat.add_comm 1]
theorem numOf_enc (v : Nat) (t : List UInt8) (hv : v < 2 ^ 64) : numOf (enc v ++ t) = (v, (enc v).length, 0) := by
  rw [numOf_eq, numGo_enc t v 0 0 (by simpa using hv) (by omega) (by omega)]
  simp
theorem zig_lt (n : Int) (h1 : -9223372036854775808 ≤ n) (h2 : n ≤ 9223372036854775807) : zig n < 2 ^ 64 := by
  unfold zig
  split <;> omega
theorem unz_zig (n : Int) : unz (zig n) = n := by
  unfold zig unz
  split <;> split <;> omega
/-- The bytes of a number have one form. -/
theorem numGo_one (b : List UInt8) : ∀ (i w : Nat), i ≤ 9 → (numGo b i w).2.2 = 0 → ∃ v, (numGo b i w).1 = w + v * 2 ^ (7 * i) ∧ (numGo b i w).2.1 = i + (enc v).length ∧ b.take (enc v).length = enc v ∧ (0 < i → 0 < v) := by
  induction b with
  | nil => intro i w _ h; simp [numGo] at h
  | cons c l ih =>
    intro i w hi h
    have hc := c.toNat_lt
    unfold numGo at h ⊢
    by_cases h1 : i = 9 ∧ 1 < c.toNat
    · rw [if_pos h1] at h; simp at h
    · rw [if_neg h1] at h ⊢
      by_cases h2 : 128 ≤ c.toNat
      · rw [if_pos h2] at h ⊢
        have hi9 : i ≠ 9 := by rintro rfl; exact h1 ⟨rfl, by omega⟩
        obtain ⟨v, e1, e2, e3, e4⟩ := ih (i + 1) _ (by omega) h
        have hv := e4 (by omega)
        have hen : enc (v * 128 + c.toNat % 128) = c :: enc v := by
          rw [enc_ge (by omega)]
          have a1 : (v * 128 + c.toNat % 128) % 128 + 128 = c.toNat := by omega
          have a2 : (v * 128 + c.toNat % 128) / 128 = v := by omega
          rw [a1, a2]
          simp
        refine ⟨v * 128 + c.toNat % 128, ?_, ?_, ?_, by omega⟩
        · rw [e1, pow7, Nat.add_mul, ← Nat.mul_assoc, Nat.add_assoc]
          congr 1
          omega
        · rw [e2, hen]; simp; omega
        · rw [hen]; simp [e3]
      · rw [if_neg h2] at h ⊢
        by_cases h3 : c.toNat = 0 ∧ 0 < i
        · rw [if_pos h3] at h; simp at h
        · rw [if_neg h3]
          have hen : enc c.toNat = [c] := by rw [enc_lt (by omega)]; simp
          refine ⟨c.toNat, ?_, ?_, ?_, by omega⟩
          · simp only; rw [Nat.mod_eq_of_lt (by omega)]
          · rw [hen]; rfl
          · rw [hen]; simp
theorem numOf_one {b : List UInt8} (h : (numOf b).2.2 = 0) : (numOf b).2.1 = (enc (numOf b).1).length ∧ b.take (numOf b).2.1 = enc (numOf b).1 := by
  rw [numOf_eq] at h ⊢
  obtain ⟨v, e1, e2, e3, _⟩ := numGo_one b 0 0 (by omega) h
  simp only [Nat.mul_zero, Nat.pow_zero, Nat.mul_one, Nat.zero_add] at e1 e2
  rw [e1, e2]
  exact ⟨rfl, e3⟩
theorem zig_unz (v : Nat) : zig (unz v) = v := by
  unfold zig unz
  split <;> split <;> omega
theorem textOf_enc (b t : List UInt8) (hb : b.length < 2 ^ 63) : textOf (encText b ++ t) b.length = (b, (encText b).length, 0) := by
  have h1 : numOf (encText b ++ t) = (b.length, (enc b.length).length, 0) := by
    rw [encText_eq, List.append_assoc]; exact numOf_enc _ _ (by omega)
  have h2 : countedOf (encText b ++ t) b.length = (b.length, (enc b.length).length, 0) := by
    rw [countedOf_t (by rw [h1]) (by rw [h1]; simp), h1]
  unfold textOf
  rw [h2]
  simp only [ne_eq, not_true, if_false]
  rw [if_neg (by rw [encText_eq]; simp), encText_eq, List.append_assoc, List.drop_left, List.take_left, List.length_append]
/-- A text's bytes have one form. -/
theorem textOf_one {b : List UInt8} {most : Int} (h : (textOf b most).2.2 = 0) : b.take (textOf b most).2.1 = encText (textOf b most).1 := by
  unfold textOf at h ⊢
  by_cases h1 : (countedOf b most).2.2 = 0
  · rw [if_neg (by omega)] at h ⊢
    by_cases h2 : b.length < (countedOf b most).2.1 + (countedOf b most).1
    · rw [if_pos h2] at h; simp at h
    · rw [if_neg h2]
      obtain ⟨a1, a2, a3, _⟩ := (countedOf_bd b most).2.2.2.2.2 h1
      have hone := numOf_one a1
      rw [a2, a3] at h2 ⊢
      simp only
      have hl : ((b.drop (numOf b).2.1).take (numOf b).1).length = (numOf b).1 := by rw [List.length_take, List.length_drop]; omega
      rw [encText_eq, hl, ← hone.2, ← List.take_add]
  · rw [if_pos (by omega)] at h
    exact absurd h h1
/-- What CodecBack reads, step by step. -/
theorem back_plain (v : Nat) (n : Int) (b : List UInt8) (c : UInt8) (hv : v < 2 ^ 64) (h1 : -9223372036854775808 ≤ n) (h2 : n ≤ 9223372036854775807) (hb : b.length < 2 ^ 63) (hc : c.toNat ≤ 1) :
    ∃ i1 i2 i3, numStep ((([] ++ enc v) ++ encInt n) ++ encText b ++ [c]) 0 0 = (v, i1, 0) ∧ numStep ((([] ++ enc v) ++ encInt n) ++ encText b ++ [c]) i1 0 = (zig n, i2, 0) ∧
      textStep ((([] ++ enc v) ++ encInt n) ++ encText b ++ [c]) b.length i2 0 = (b, i3, 0) ∧ flagStep ((([] ++ enc v) ++ encInt n) ++ encText b ++ [c]) i3 0 = (decide (c.toNat = 1), i3 + 1, 0) ∧
      i3 + 1 = ((([] ++ enc v) ++ encInt n) ++ encText b ++ [c]).length ∧ i1 ≤ i2 ∧ i2 ≤ i3 := by
  refine ⟨(enc v).length, (enc v ++ encInt n).length, (enc v ++ encInt n ++ encText b).length, ?_, ?_, ?_, ?_, ?_, ?_, ?_⟩
  · unfold numStep
    rw [if_pos rfl]
    simp only [List.nil_append, List.append_assoc, List.drop_zero]
    rw [numOf_enc v _ hv]
    simp
  · unfold numStep
    rw [if_pos rfl]
    simp only [List.nil_append, List.append_assoc]
    rw [List.drop_left, encInt_eq, numOf_enc _ _ (zig_lt n h1 h2), List.length_append]
  · unfold textStep
    rw [if_pos rfl, List.nil_append, List.append_assoc (enc v ++ encInt n), List.drop_left, textOf_enc _ _ hb]
    exact congrArg (fun z => (b, z, 0)) List.length_append.symm
  · unfold flagStep
    rw [if_pos rfl, List.nil_append, List.drop_left]
    have : flagOf [c] = (decide (c.toNat = 1), 1, 0) := if_neg (by omega)
    rw [this]
  · simp; omega
  · simp
  · simp
section app
variable {P : Program} {ds : List Deferred} {Q : Post} {K : List Value → World → Prop} {all os : List Oper} {l : List Value} {w0 w w' : World} {S S' : List Nat} {es es' : List Ent} {ty t : TypeId} {pos : String} {af : Array Edge} {d : Tmp} {v : Value} {op : Op}
  {zs cs : List Value} {agg : Bool} {x y : Operand}
/-- append of bytes to bytes. -/
theorem ops_app8 {e : TypeId} (ht : P.underlying t = some (.slice e)) (he : TyOk P e zs 1 1 agg) (H : Hp w0 w S es) (i : Nat)
    {g : Option Nat} {cap : Nat} {L M : List UInt8} {sp : List Value} (hx : ev l x = some (.slice (hd g) L.length cap)) (hi : es[i]? = some (g, e, u8s L ++ sp)) (hc : cap * 1 ≤ (u8s L ++ sp).length) (hnc : L.length ≤ cap) (hcap : g = none → cap = 0)
    {A : Option Addr} {c : Nat} (hy : ev l y = some (.slice A M.length c)) (hr : Rd w A M.length 1 (u8s M)) (hb : L.length + M.length ≤ 211106232532992)
    (k : ∀ w' g' cap' sp', Hp w0 w' S (es.set i (g', e, u8s (L ++ M) ++ sp')) → (L ++ M).length ≤ cap' → cap' * 1 ≤ (u8s (L ++ M) ++ sp').length → (g' = none → cap' = 0) → Ops P ds all K Q os (l.set d (.slice (hd g') (L ++ M).length cap')) w') :
    Ops P ds all K Q (⟨some d, .call { callee := .builtin .append, args := #[x, y], argTypes := #[t, t] }, ty, pos, af, none⟩ :: os) l w := by
  refine ops_append ht he (by decide) H i hx hi (u8s_length1 L) hc hnc hcap hy hr (u8s_one' M) (by omega) (by omega) (by decide) ?_
  intro w' g' cap' sp' H' h1 h2 h3
  rw [← List.length_append]
  rw [← List.length_append] at h2
  rw [← u8s_append] at H' h1
  exact k w' g' cap' sp' H' h2 h1 h3
theorem ops_call_slice {f : FuncId} {args : Array Value} {n : Nat} {X : Option Nat → Nat → List Value → World → Prop} (hx : Ex P l op ty w (.enter f args) w) (hc : Does P f args w fun r w' => ∃ g cap sp, r = .slice (hd g) n cap ∧ X g cap sp w')
    (h : ∀ w' g cap sp, X g cap sp w' → Ops P ds all K Q os (l.set d (.slice (hd g) n cap)) w') : Ops P ds all K Q (⟨some d, op, ty, pos, af, none⟩ :: os) l w :=
  ops_call hx hc fun r w' ⟨g, cap, sp, h1, h2⟩ => by rw [h1]; exact h w' g cap sp h2
end app
/-! Rows of their own. -/
theorem Hp.ne {w0 w : World} {S : List Nat} {es : List Ent} (H : Hp w0 w S es) {i j g g' : Nat} {T T' : TypeId} {cs cs' : List Value} (h1 : es[i]? = some (some g, T, cs)) (h2 : es[j]? = some (some g', T', cs')) (hij : i ≠ j) : g ≠ g' := by
  rintro rfl
  exact hij (H.apart i j _ _ g h1 h2 rfl rfl)
theorem Hp.neh {w0 w : World} {S : List Nat} {es : List Ent} (H : Hp w0 w S es) {i j g' : Nat} {g : Option Nat} {T T' : TypeId} {cs cs' : List Value} (h1 : es[i]? = some (g, T, cs)) (h2 : es[j]? = some (some g', T', cs')) (hij : i ≠ j) : ∀ a, hd g = some a → a.block ≠ g' := by
  intro a ha
  cases g with
  | none => simp [hd] at ha
  | some x =>
    simp only [hd, Option.map_some, Option.some.injEq] at ha
    subst ha
    exact H.ne h1 h2 hij
theorem Rdr.past {w w' : World} {gr g' : Nat} {A : Option Addr} {c i e : Nat} {b : List UInt8} {es : List Ent} (h : Rdr w gr A c b i e) (H : Hp w w' [g'] es) (h1 : gr ≠ g') (h2 : ∀ a, A = some a → a.block ≠ g') : Rdr w' gr A c b i e :=
  h.to H (by simpa using h1) (by simpa using h2)
/-- What CodecOneForm asks of what is read. -/
theorem one_plain (b : List UInt8) (hb : b.length < 2 ^ 63) : ∃ (v i e : Nat) (x : List UInt8) (j f : Nat), numStep b 0 0 = (v, i, e) ∧ textStep b b.length 0 0 = (x, j, f) ∧ v < 2 ^ 64 ∧ i ≤ b.length ∧ j ≤ b.length ∧ x.length ≤ b.length ∧
    (e = 0 → 1 ≤ i ∧ i ≤ 10 ∧ b.take i = enc v) ∧ (f = 0 → b.take j = encText x) ∧ -9223372036854775808 ≤ unz v ∧ unz v ≤ 9223372036854775807 ∧ encInt (unz v) = enc v := by
  have h := numOf_bd b
  have ht := textOf_bd b b.length
  refine ⟨(numOf b).1, (numOf b).2.1, (numOf b).2.2, (textOf b b.length).1, (textOf b b.length).2.1, (textOf b b.length).2.2, ?_, ?_, h.1, h.2.1, ht.1, ?_, ?_, ?_, ?_, ?_, ?_⟩
  · simp [numStep]
  · simp [textStep]
  · unfold textOf
    split
    · simp
    · split
      · simp
      · simp; omega
  · intro he
    obtain ⟨h1, h2⟩ := numOf_one he
    exact ⟨by have := enc_pos (numOf b).1; omega, by have := enc_len64 h.1; omega, h2⟩
  · exact textOf_one
  · have := h.1; unfold unz; split <;> omega
  · have := h.1; unfold unz; split <;> omega
  · rw [encInt_eq, zig_unz]
theorem Rd.mid2 {w : World} {A : Option Addr} {b : List UInt8} {n v c : Nat} (h : Rd w A b.length 1 (u8s b)) (hi : n + v ≤ b.length) (hc : b.length ≤ c) : Rd w (cutAddr A n c 1) ((n + v) - n) 1 (u8s ((b.drop n).take v)) := by
  have := h.cut n (n + v) c (by omega) hi (by omega)
  rw [u8s_take, u8s_drop]
  simp only [Nat.mul_one, Nat.add_sub_cancel_left] at this ⊢
  unfold cutAddr
  simp only [Nat.mul_one]
  exact this
theorem Rd.tail2 {w : World} {A : Option Addr} {b : List UInt8} {i c : Nat} (h : Rd w A b.length 1 (u8s b)) (hi : i ≤ b.length) (hc : b.length ≤ c) : Rd w (cutAddr A i c 1) (b.length - i) 1 (u8s (b.drop i)) := by
  have := h.mid2 (n := i) (v := b.length - i) (c := c) (by omega) hc
  rw [Nat.add_sub_cancel_left, List.take_of_length_le (by rw [List.length_drop]; exact Nat.le_refl _)] at this
  exact this
end Go.Proofs.YtoeobicpdeklaaaGreat
