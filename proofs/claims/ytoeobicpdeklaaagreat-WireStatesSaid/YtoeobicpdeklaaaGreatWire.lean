/-
  Fields of things, one behind the other: how they are written, how they are read, how they lie in memory.
-/
import Derived.Test.YtoeobicpdeklaaaGreatMany
namespace Go.Proofs.YtoeobicpdeklaaaGreat
open Go Go.RowKit

/-! ### Fields -/
inductive Fv
  | int (n : Int)
  | flag (x : Bool)
  | text (s : List UInt8)
  | bytes (s : List UInt8)
  | word (n : Nat)
  | count (n : Nat)
inductive Kd
  | int
  | flag
  | text
  | bytes
  | word
  | count
def Fv.kd : Fv → Kd
  | .int _ => .int
  | .flag _ => .flag
  | .text _ => .text
  | .bytes _ => .bytes
  | .word _ => .word
  | .count _ => .count
def encF : Fv → List UInt8
  | .int n => encInt n
  | .flag x => [if x then 1 else 0]
  | .text s => encText s
  | .bytes s => encText s
  | .word n => enc n
  | .count n => enc n
def tooLong : Fv → Bool
  | .text s => decide (65535 < s.length)
  | .bytes s => decide (65535 < s.length)
  | .count n => decide (1024 < n)
  | _ => false
/-! The pen. -/
structure WS where
  out : List UInt8
  long : Bool
def wPut (x : List UInt8) (st : WS) : WS := if st.long = true ∨ 65536 < st.out.length + x.length then ⟨st.out, true⟩ else ⟨st.out ++ x, st.long⟩
def wFld (f : Fv) (st : WS) : WS := if st.long = true then st else if tooLong f = true then ⟨st.out, true⟩ else wPut (encF f) st
def wAll (fs : List Fv) (st : WS) : WS := fs.foldl (fun st f => wFld f st) st
theorem wAll_append (a b : List Fv) (st : WS) : wAll (a ++ b) st = wAll b (wAll a st) := by simp [wAll]
theorem wAll_nil (st : WS) : wAll [] st = st := rfl
theorem wAll_one (f : Fv) (st : WS) : wAll [f] st = wFld f st := rfl
theorem wAll_snoc {fs : List Fv} {q : Nat} (h : q < fs.length) (st : WS) : wAll (fs.take (q + 1)) st = wFld fs[q] (wAll (fs.take q) st) := by
  rw [List.take_add_one, List.getElem?_eq_getElem h, wAll_append]; rfl
theorem wAll_part (fs : List Fv) (k n : Nat) (st : WS) : wAll ((fs.drop k).take n) (wAll (fs.take k) st) = wAll (fs.take (k + n)) st := by
  rw [List.take_add, wAll_append]
theorem wFld_long {f : Fv} {st : WS} (h : st.long = true) : wFld f st = st := if_pos h
theorem wFld_too {f : Fv} {st : WS} (h : st.long = false) (h2 : tooLong f = true) : wFld f st = ⟨st.out, true⟩ := by unfold wFld; rw [if_neg (by simp [h]), if_pos h2]
theorem wFld_put {f : Fv} {st : WS} (h : st.long = false) (h2 : tooLong f = false) : wFld f st = wPut (encF f) st := by unfold wFld; rw [if_neg (by simp [h]), if_neg (by simp [h2])]
theorem wAll_long {fs : List Fv} {st : WS} (h : st.long = true) : wAll fs st = st := by
  induction fs with
  | nil => rfl
  | cons f fs ih =>
    show wAll fs (wFld f st) = st
    rw [wFld_long h]; exact ih
theorem wPut_bd {x : List UInt8} {st : WS} (h : st.out.length ≤ 65536) : (wPut x st).out.length ≤ 65536 := by
  unfold wPut
  split
  · exact h
  · simp only [List.length_append]; omega
theorem wFld_bd {f : Fv} {st : WS} (h : st.out.length ≤ 65536) : (wFld f st).out.length ≤ 65536 := by
  unfold wFld
  split
  · exact h
  · split
    · exact h
    · exact wPut_bd h
theorem wAll_bd {fs : List Fv} {st : WS} (h : st.out.length ≤ 65536) : (wAll fs st).out.length ≤ 65536 := by
  induction fs generalizing st with
  | nil => exact h
  | cons f fs ih => exact ih (wFld_bd h)
/-! The document's walk. -/
def vFld (f : Fv) (st : WS) : WS := match f with
  | .int _ | .flag _ | .word _ => ⟨st.out ++ encF f, st.long⟩
  | f => if st.long = true ∨ tooLong f = true then ⟨st.out, true⟩ else ⟨st.out ++ encF f, false⟩
def vAll (fs : List Fv) (st : WS) : WS := fs.foldl (fun st f => vFld f st) st
theorem vAll_append (a b : List Fv) (st : WS) : vAll (a ++ b) st = vAll b (vAll a st) := by simp [vAll]
theorem vAll_snoc {fs : List Fv} {q : Nat} (h : q < fs.length) (st : WS) : vAll (fs.take (q + 1)) st = vFld fs[q] (vAll (fs.take q) st) := by
  rw [List.take_add_one, List.getElem?_eq_getElem h, vAll_append]; rfl
theorem vAll_part (fs : List Fv) (k n : Nat) (st : WS) : vAll ((fs.drop k).take n) (vAll (fs.take k) st) = vAll (fs.take (k + n)) st := by
  rw [List.take_add, vAll_append]
theorem vAll_bytes_long {x : List UInt8} {st : WS} (h : st.long = true ∨ tooLong (.bytes x) = true) : vAll [.bytes x] st = ⟨st.out, true⟩ := if_pos h
theorem vAll_bytes_put {x : List UInt8} {st : WS} (h : st.long = false) (h2 : tooLong (.bytes x) = false) : vAll [.bytes x] st = ⟨st.out ++ encText x, false⟩ := if_neg (by simp [h, h2])
theorem vAll_text_long {x : List UInt8} {st : WS} (h : st.long = true ∨ tooLong (.text x) = true) : vAll [.text x] st = ⟨st.out, true⟩ := if_pos h
theorem vAll_text_put {x : List UInt8} {st : WS} (h : st.long = false) (h2 : tooLong (.text x) = false) : vAll [.text x] st = ⟨st.out ++ encText x, false⟩ := if_neg (by simp [h, h2])
/-- An int that fits. -/
def FOk : Fv → Prop
  | .int n => -9223372036854775808 ≤ n ∧ n ≤ 9223372036854775807
  | .word n => n < 4294967296
  | _ => True
theorem encF_len {f : Fv} (h : FOk f) (h2 : tooLong f = false) : (encF f).length ≤ 65545 := by
  cases f with
  | int n => have := enc_len64 (zig_lt n h.1 h.2); show (encInt n).length ≤ _; rw [encInt_eq]; omega
  | flag x => show 1 ≤ 65545; omega
  | text s =>
    have h3 : s.length ≤ 65535 := by simpa [tooLong] using h2
    have := enc_len64 (v := s.length) (by omega)
    show (encText s).length ≤ _
    rw [encText_eq, List.length_append]; omega
  | bytes s =>
    have h3 : s.length ≤ 65535 := by simpa [tooLong] using h2
    have := enc_len64 (v := s.length) (by omega)
    show (encText s).length ≤ _
    rw [encText_eq, List.length_append]; omega
  | word n =>
    have h1 : n < 4294967296 := h
    have := enc_len64 (v := n) (by omega); show (enc n).length ≤ _; omega
  | count n =>
    have h3 : n ≤ 1024 := by simpa [tooLong] using h2
    have := enc_len64 (v := n) (by omega); show (enc n).length ≤ _; omega
theorem vFld_bd {f : Fv} {st : WS} (hf : FOk f) : (vFld f st).out.length ≤ st.out.length + 65545 := by
  cases f with
  | int n => have := encF_len hf rfl; show (st.out ++ _).length ≤ _; rw [List.length_append]; omega
  | flag x => show (st.out ++ _).length ≤ _; simp [encF]
  | text s =>
    show (if _ then _ else _ : WS).out.length ≤ _
    split
    · exact Nat.le_add_right _ _
    · rename_i h
      have := encF_len (f := .text s) trivial (by simpa using (not_or.1 h).2)
      show (st.out ++ _).length ≤ _; rw [List.length_append]; omega
  | bytes s =>
    show (if _ then _ else _ : WS).out.length ≤ _
    split
    · exact Nat.le_add_right _ _
    · rename_i h
      have := encF_len (f := .bytes s) trivial (by simpa using (not_or.1 h).2)
      show (st.out ++ _).length ≤ _; rw [List.length_append]; omega
  | word n => have := encF_len hf rfl; show (st.out ++ _).length ≤ _; rw [List.length_append]; omega
  | count n =>
    show (if _ then _ else _ : WS).out.length ≤ _
    split
    · exact Nat.le_add_right _ _
    · rename_i h
      have := encF_len (f := .count n) trivial (by simpa using (not_or.1 h).2)
      show (st.out ++ _).length ≤ _; rw [List.length_append]; omega
theorem vAll_bd {fs : List Fv} {st : WS} (hf : ∀ f ∈ fs, FOk f) : (vAll fs st).out.length ≤ st.out.length + 65545 * fs.length := by
  induction fs generalizing st with
  | nil => exact Nat.le_add_right _ _
  | cons f fs ih =>
    have h1 := vFld_bd (st := st) (hf f (by simp))
    have h2 := ih (st := vFld f st) fun g hg => hf g (List.mem_cons_of_mem _ hg)
    show (vAll fs (vFld f st)).out.length ≤ _
    simp only [List.length_cons]; omega
/-- Both write alike. -/
def Alike (a b : WS) : Prop := (a.long = true ∧ (b.long = true ∨ 65536 < b.out.length)) ∨ (a.long = false ∧ b.long = false ∧ a.out = b.out ∧ a.out.length ≤ 65536)
theorem vFld_long {f : Fv} {st : WS} (h : st.long = true) : (vFld f st).long = true := by
  cases f <;> simp [vFld, h]
theorem vFld_more {f : Fv} {st : WS} : st.out.length ≤ (vFld f st).out.length := by
  cases f with
  | int n => show _ ≤ (st.out ++ _).length; simp
  | flag x => show _ ≤ (st.out ++ _).length; simp
  | text s => show _ ≤ (if _ then _ else _ : WS).out.length; split <;> simp
  | bytes s => show _ ≤ (if _ then _ else _ : WS).out.length; split <;> simp
  | word n => show _ ≤ (st.out ++ _).length; simp
  | count n => show _ ≤ (if _ then _ else _ : WS).out.length; split <;> simp
theorem alike_fld {a b : WS} (f : Fv) (h : Alike a b) : Alike (wFld f a) (vFld f b) := by
  rcases h with ⟨h1, h2⟩ | ⟨h1, h2, h3, h4⟩
  · rw [wFld_long h1]
    refine .inl ⟨h1, ?_⟩
    rcases h2 with h2 | h2
    · exact .inl (vFld_long h2)
    · exact .inr (Nat.lt_of_lt_of_le h2 vFld_more)
  · have key : tooLong f = false → Alike (wPut (encF f) a) ⟨b.out ++ encF f, false⟩ := by
      intro _
      unfold wPut
      split
      · rename_i h
        refine .inl ⟨rfl, .inr ?_⟩
        rcases h with h | h
        · rw [h1] at h; cases h
        · simp only [List.length_append, ← h3]; exact h
      · rename_i h
        have := not_or.1 h
        exact .inr ⟨h1, rfl, by simp [h3], by simp only [List.length_append]; omega⟩
    by_cases ht : tooLong f = true
    · rw [wFld_too h1 ht]
      refine .inl ⟨rfl, .inl ?_⟩
      cases f with
      | int n => cases ht
      | flag x => cases ht
      | text s => show (if _ then _ else _ : WS).long = true; rw [if_pos (.inr ht)]
      | bytes s => show (if _ then _ else _ : WS).long = true; rw [if_pos (.inr ht)]
      | word n => cases ht
      | count n => show (if _ then _ else _ : WS).long = true; rw [if_pos (.inr ht)]
    · have ht' : tooLong f = false := by simpa using ht
      rw [wFld_put h1 ht']
      have hv : vFld f b = ⟨b.out ++ encF f, false⟩ := by
        cases f with
        | int n => show (⟨_, b.long⟩ : WS) = _; rw [h2]
        | flag x => show (⟨_, b.long⟩ : WS) = _; rw [h2]
        | text s => show (if _ then _ else _ : WS) = _; rw [if_neg (by simp [h2, ht'])]
        | bytes s => show (if _ then _ else _ : WS) = _; rw [if_neg (by simp [h2, ht'])]
        | word n => show (⟨_, b.long⟩ : WS) = _; rw [h2]
        | count n => show (if _ then _ else _ : WS) = _; rw [if_neg (by simp [h2, ht'])]
      rw [hv]
      exact key ht'
theorem alike_all {a b : WS} (fs : List Fv) (h : Alike a b) : Alike (wAll fs a) (vAll fs b) := by
  induction fs generalizing a b with
  | nil => exact h
  | cons f fs ih => exact ih (alike_fld f h)
/-! ### Reading -/
def wordStep (b : List UInt8) (i e : Nat) : Nat × Nat × Nat := if 4294967295 < (numStep b i e).1 then (0, i, 21) else numStep b i e
def rdF (k : Kd) (b : List UInt8) (i e : Nat) : Fv × Nat × Nat := match k with
  | .word => (.word (wordStep b i e).1, (wordStep b i e).2)
  | .count => (.count (countStep b 1024 i e).1, (countStep b 1024 i e).2)
  | .int => (.int (unz (numStep b i e).1), (numStep b i e).2)
  | .flag => (.flag (flagStep b i e).1, (flagStep b i e).2)
  | .text => (.text (textStep b 65535 i e).1, (textStep b 65535 i e).2)
  | .bytes => (.bytes (textStep b 65535 i e).1, (textStep b 65535 i e).2)
def rdAll : List Kd → List UInt8 → Nat → Nat → List Fv × Nat × Nat
  | [], _, i, e => ([], i, e)
  | k :: ks, b, i, e => ((rdF k b i e).1 :: (rdAll ks b (rdF k b i e).2.1 (rdF k b i e).2.2).1, (rdAll ks b (rdF k b i e).2.1 (rdF k b i e).2.2).2)
theorem rdAll_append : ∀ (a c : List Kd) (b : List UInt8) (i e : Nat), rdAll (a ++ c) b i e = ((rdAll a b i e).1 ++ (rdAll c b (rdAll a b i e).2.1 (rdAll a b i e).2.2).1, (rdAll c b (rdAll a b i e).2.1 (rdAll a b i e).2.2).2)
  | [], c, b, i, e => rfl
  | k :: a, c, b, i, e => by
    simp only [List.cons_append, rdAll, rdAll_append a c]
theorem rdAll_app {a c : List Kd} {b : List UInt8} {i e i1 e1 i2 e2 : Nat} {f1 f2 : List Fv} (h1 : rdAll a b i e = (f1, i1, e1)) (h2 : rdAll c b i1 e1 = (f2, i2, e2)) : rdAll (a ++ c) b i e = (f1 ++ f2, i2, e2) := by
  rw [rdAll_append, h1]
  simp only [h2]
theorem rdAll_one (k : Kd) (b : List UInt8) (i e : Nat) : rdAll [k] b i e = ([(rdF k b i e).1], (rdF k b i e).2) := rfl
theorem rdAll_kd : ∀ (ks : List Kd) (b : List UInt8) (i e : Nat), (rdAll ks b i e).1.map Fv.kd = ks
  | [], _, _, _ => rfl
  | k :: ks, b, i, e => by
    simp only [rdAll, List.map_cons]
    rw [rdAll_kd ks]
    cases k <;> rfl
def zF : Kd → Fv
  | .int => .int 0
  | .flag => .flag false
  | .text => .text []
  | .bytes => .bytes []
  | .word => .word 0
  | .count => .count 0
theorem wordStep_bad {b : List UInt8} {i e : Nat} (h : e ≠ 0) : wordStep b i e = (0, i, e) := by
  have h1 : numStep b i e = (0, i, e) := by unfold numStep; rw [if_neg h]
  unfold wordStep
  rw [h1, if_neg (by show ¬ 4294967295 < 0; decide)]
theorem rdF_bad {k : Kd} {b : List UInt8} {i e : Nat} (h : e ≠ 0) : rdF k b i e = (zF k, i, e) := by
  cases k
  · show (Fv.int (unz (numStep b i e).1), (numStep b i e).2) = _
    unfold numStep; rw [if_neg h]; show (Fv.int (unz 0), i, e) = (Fv.int 0, i, e); rw [show unz 0 = 0 by simp [unz]]
  · show (Fv.flag (flagStep b i e).1, (flagStep b i e).2) = _
    unfold flagStep; rw [if_neg h]; rfl
  · show (Fv.text (textStep b 65535 i e).1, (textStep b 65535 i e).2) = _
    unfold textStep; rw [if_neg h]; rfl
  · show (Fv.bytes (textStep b 65535 i e).1, (textStep b 65535 i e).2) = _
    unfold textStep; rw [if_neg h]; rfl
  · show (Fv.word (wordStep b i e).1, (wordStep b i e).2) = _
    rw [wordStep_bad h]; rfl
  · show (Fv.count (countStep b 1024 i e).1, (countStep b 1024 i e).2) = _
    unfold countStep; rw [if_neg h]; rfl
theorem textStep_bd {b : List UInt8} {i e : Nat} (h : i ≤ b.length) : (textStep b 65535 i e).2.1 ≤ b.length ∧ (textStep b 65535 i e).1.length ≤ b.length := by
  unfold textStep
  split
  · have h1 := (textOf_bd (b.drop i) 65535).1
    rw [List.length_drop] at h1
    refine ⟨by simp only; omega, ?_⟩
    simp only
    unfold textOf
    split
    · simp
    · split
      · simp
      · simp only [List.length_take, List.length_drop]; omega
  · exact ⟨h, by simp⟩
theorem flagStep_bd {b : List UInt8} {i e : Nat} (h : i ≤ b.length) : (flagStep b i e).2.1 ≤ b.length := by
  unfold flagStep
  split
  · have h1 := (flagOf_bd (b.drop i)).1
    rw [List.length_drop] at h1
    simp only; omega
  · exact h
theorem wordStep_le {b : List UInt8} {i e : Nat} (h : i ≤ b.length) : (wordStep b i e).2.1 ≤ b.length := by
  unfold wordStep
  split
  · exact h
  · exact numStep_le h
theorem rdF_le {k : Kd} {b : List UInt8} {i e : Nat} (h : i ≤ b.length) : (rdF k b i e).2.1 ≤ b.length := by
  cases k
  · exact numStep_le h
  · exact flagStep_bd h
  · exact (textStep_bd h).1
  · exact (textStep_bd h).1
  · exact wordStep_le h
  · exact (countStep_le h).1
theorem unz_ok {v : Nat} (h : v < 2 ^ 64) : -9223372036854775808 ≤ unz v ∧ unz v ≤ 9223372036854775807 := by
  unfold unz
  split <;> omega
/-! ### Fields in memory -/
def strV (s : List UInt8) : Value := .string ⟨s.toArray⟩
def FP (w : World) (ok : Nat → Prop) (f : Fv) (v : Value) : Prop := match f with
  | .int n => v = .int .i64 n ∧ -9223372036854775808 ≤ n ∧ n ≤ 9223372036854775807
  | .flag x => v = .bool x
  | .text s => v = strV s
  | .bytes s => ∃ (B : Option Addr) (c : Nat), v = .slice B s.length c ∧ Rd w B s.length 1 (u8s s) ∧ (0 < s.length → ∀ p, B = some p → ok p.block)
  | .word n => v = .int .u32 (n : Int) ∧ n < 4294967296
  | .count _ => v = .bool false
/-- What is readable stands behind a call that does not turn it, and lies apart from all that is told of then. -/
theorem Rd.apt {w w' : World} {S : List Nat} {es : List Ent} {B : Option Addr} {n z : Nat} {xs : List Value} (hr : Rd w B n z xs) (hn : 0 < n * z) (ha : ∀ p, B = some p → p.block ∉ S) (H : Hp w w' S es) : ∀ p, B = some p → p.block ∉ bl es := by
  intro p hp hb
  obtain ⟨⟨g, T, cs⟩, he, hg⟩ := List.mem_filterMap.1 hb
  obtain ⟨i, hi⟩ := List.getElem?_of_mem he
  simp only at hg
  subst hg
  have h1 := H.place hi
  have h2 : 0 < xs.length := by rw [hr.len]; exact hn
  have h3 := World.block_lt_of_cell? w _ (hr.cells p hp 0 _ (List.getElem?_eq_getElem h2))
  rw [Addr.add_zero'] at h3
  rcases h1 with h1 | h1
  · exact ha p hp h1
  · omega
section
variable {w w' : World} {ok ok' : Nat → Prop} {S : List Nat} {es es' : List Ent} {f : Fv} {v : Value}
theorem FP.mono (h : FP w ok f v) (hs : ∀ b, ok b → ok' b) : FP w ok' f v := by
  cases f with
  | bytes s =>
    obtain ⟨B, c, h1, h2, h3⟩ := h
    exact ⟨B, c, h1, h2, fun h0 p hp => hs _ (h3 h0 p hp)⟩
  | _ => exact h
theorem FP.to (h : FP w ok f v) (H : Hp w w' S es) (hs : ∀ b, ok b → b ∉ S) : FP w' (fun b => ok b ∧ b ∉ bl es) f v := by
  cases f with
  | bytes s =>
    obtain ⟨B, c, h1, h2, h3⟩ := h
    by_cases h0 : 0 < s.length
    · exact ⟨B, c, h1, h2.to H fun p hp => hs _ (h3 h0 p hp), fun _ p hp => ⟨h3 h0 p hp, h2.apt (by omega) (fun p hp => hs _ (h3 h0 p hp)) H p hp⟩⟩
    · have : s = [] := List.eq_nil_of_length_eq_zero (by omega)
      subst this
      exact ⟨B, c, h1, ⟨rfl, fun _ _ _ _ hu => by simp [u8s] at hu, fun _ => rfl⟩, fun h => absurd h (by simp)⟩
  | _ => exact h
theorem FP.fok (h : FP w ok f v) : FOk f := by
  cases f with
  | int n => exact h.2
  | word n => exact h.2
  | _ => trivial
theorem FP.one (h : FP w ok f v) : v.oneCell' = true := by
  cases f with
  | int n => rw [h.1]; rfl
  | word n => rw [h.1]; rfl
  | flag x => rw [show v = .bool x from h]; rfl
  | text s => rw [show v = strV s from h]; rfl
  | bytes s => obtain ⟨B, c, h1, _⟩ := h; rw [h1]; rfl
  | count n => rw [show v = .bool false from h]; rfl
end
abbrev FC (w : World) (es : List Ent) (f : Fv) (v : Value) : Prop := FP w (fun b => b ∉ bl es) f v
/-- A block that is no text's. -/
def Tw (w : World) (b : Nat) : Prop := ∃ arr U, w.heap[b]? = some (.cells arr U (0, 0))
theorem Tw.to {w w' : World} {S : List Nat} {es : List Ent} {b : Nat} (h : Tw w b) (H : Hp w w' S es) (hb : b ∉ S) : Tw w' b := by
  obtain ⟨arr, U, h⟩ := h
  exact ⟨arr, U, H.keep h hb⟩
/-- A block of new memory, apart from all that is told of. -/
def Fr (w : World) (n : Nat) (es : List Ent) (b : Nat) : Prop := n ≤ b ∧ b ∉ bl es ∧ Tw w b
theorem FC.to {w w' : World} {es es' : List Ent} {f : Fv} {v : Value} (h : FC w es f v) (H : Hp w w' (bl es) es') : FC w' es' f v := (FP.to h H fun _ h => h).mono fun _ h => h.2
theorem FC.less {w : World} {es es' : List Ent} {f : Fv} {v : Value} (h : FC w es f v) (hs : ∀ b ∈ bl es', b ∈ bl es) : FC w es' f v := FP.mono h fun _ h hb => h (hs _ hb)
structure FPs (w : World) (ok : Nat → Prop) (fs : List Fv) (vs : List Value) : Prop where
  len : vs.length = fs.length
  each : ∀ i (h : i < fs.length), ∃ v, vs[i]? = some v ∧ FP w ok fs[i] v
abbrev FCs (w : World) (es : List Ent) (fs : List Fv) (vs : List Value) : Prop := FPs w (fun b => b ∉ bl es) fs vs
/-- Fields whose memory is none of the first n blocks, and none that is told of. -/
abbrev NFs (w : World) (n : Nat) (es : List Ent) (fs : List Fv) (vs : List Value) : Prop := FPs w (Fr w n es) fs vs
section
variable {w w' : World} {ok ok' : Nat → Prop} {S : List Nat} {es es' : List Ent} {fs gs : List Fv} {vs us : List Value} {n : Nat}
theorem FPs.nil : FPs w ok [] [] := ⟨rfl, fun i h => by cases h⟩
theorem FPs.one {f : Fv} {v : Value} (h : FP w ok f v) : FPs w ok [f] [v] := ⟨rfl, fun i hi => by
  have : i = 0 := by simp at hi; omega
  subst this
  exact ⟨v, rfl, h⟩⟩
theorem FPs.mono (h : FPs w ok fs vs) (hs : ∀ b, ok b → ok' b) : FPs w ok' fs vs := ⟨h.len, fun i hi => by
  obtain ⟨v, h1, h2⟩ := h.each i hi
  exact ⟨v, h1, h2.mono hs⟩⟩
theorem FPs.to (h : FPs w ok fs vs) (H : Hp w w' S es) (hs : ∀ b, ok b → b ∉ S) : FPs w' (fun b => ok b ∧ b ∉ bl es) fs vs := ⟨h.len, fun i hi => by
  obtain ⟨v, h1, h2⟩ := h.each i hi
  exact ⟨v, h1, h2.to H hs⟩⟩
theorem FCs.to (h : FCs w es fs vs) (H : Hp w w' (bl es) es') : FCs w' es' fs vs := (FPs.to h H fun _ h => h).mono fun _ h => h.2
theorem NFs.to (h : NFs w n es fs vs) (H : Hp w w' (bl es) es') : NFs w' n es' fs vs := (FPs.to h H fun _ h => h.2.1).mono fun _ h => ⟨h.1.1, h.2, h.1.2.2.to H h.1.2.1⟩
theorem NFs.fc (h : NFs w n es fs vs) : FCs w es fs vs := FPs.mono h fun _ h => h.2.1
theorem FCs.less (h : FCs w es fs vs) (hs : ∀ b ∈ bl es', b ∈ bl es) : FCs w es' fs vs := FPs.mono h fun _ h hb => h (hs _ hb)
theorem FPs.app (h : FPs w ok fs vs) (h2 : FPs w ok gs us) : FPs w ok (fs ++ gs) (vs ++ us) := by
  refine ⟨by simp [h.len, h2.len], fun i hi => ?_⟩
  by_cases hin : i < fs.length
  · rw [List.getElem_append_left hin]
    obtain ⟨v, q1, q2⟩ := h.each i hin
    exact ⟨v, by rw [List.getElem?_append_left (by rw [h.len]; exact hin)]; exact q1, q2⟩
  · rw [List.getElem_append_right (by omega)]
    have hi2 : i - fs.length < gs.length := by simp only [List.length_append] at hi; omega
    obtain ⟨v, q1, q2⟩ := h2.each _ hi2
    exact ⟨v, by rw [List.getElem?_append_right (by rw [h.len]; omega), h.len]; exact q1, q2⟩
theorem FPs.fok (h : FPs w ok fs vs) : ∀ f ∈ fs, FOk f := by
  intro f hf
  obtain ⟨i, hi, rfl⟩ := List.getElem_of_mem hf
  obtain ⟨v, _, h2⟩ := h.each i hi
  exact h2.fok
theorem FPs.ones (h : FPs w ok fs vs) : vs.all (·.oneCell') = true := by
  rw [List.all_eq_true]
  intro v hv
  obtain ⟨i, hi, rfl⟩ := List.getElem_of_mem hv
  obtain ⟨u, h1, h2⟩ := h.each i (by rw [← h.len]; exact hi)
  rw [List.getElem?_eq_getElem hi] at h1
  cases h1
  exact h2.one
end
theorem one_kd {fs : List Fv} {k : Kd} (h : fs.map Fv.kd = [k]) : ∃ f, fs = [f] ∧ f.kd = k := by
  match fs, h with
  | [f], h => exact ⟨f, rfl, by simpa using h⟩
theorem one_int {fs : List Fv} (h : fs.map Fv.kd = [.int]) : ∃ x, fs = [.int x] := by
  obtain ⟨f, rfl, h⟩ := one_kd h
  cases f <;> first | exact ⟨_, rfl⟩ | cases h
theorem one_flag {fs : List Fv} (h : fs.map Fv.kd = [.flag]) : ∃ x, fs = [.flag x] := by
  obtain ⟨f, rfl, h⟩ := one_kd h
  cases f <;> first | exact ⟨_, rfl⟩ | cases h
theorem one_text {fs : List Fv} (h : fs.map Fv.kd = [.text]) : ∃ x, fs = [.text x] := by
  obtain ⟨f, rfl, h⟩ := one_kd h
  cases f <;> first | exact ⟨_, rfl⟩ | cases h
theorem one_word {fs : List Fv} (h : fs.map Fv.kd = [.word]) : ∃ x, fs = [.word x] := by
  obtain ⟨f, rfl, h⟩ := one_kd h
  cases f <;> first | exact ⟨_, rfl⟩ | cases h
theorem one_bytes {fs : List Fv} (h : fs.map Fv.kd = [.bytes]) : ∃ x, fs = [.bytes x] := by
  obtain ⟨f, rfl, h⟩ := one_kd h
  cases f <;> first | exact ⟨_, rfl⟩ | cases h
theorem FPs.head {w : World} {ok : Nat → Prop} {f : Fv} {vs : List Value} (h : FPs w ok [f] vs) : ∃ v, vs = [v] ∧ FP w ok f v := by
  obtain ⟨v, h1, h2⟩ := h.each 0 (by simp)
  have hl := h.len
  match vs, hl, h1 with
  | [x], _, h1 => exact ⟨v, by simpa using h1, h2⟩
theorem Rd.fc {w0 w : World} {S : List Nat} {es : List Ent} {B : Option Addr} {s : List UInt8} (h : Rd w0 B s.length 1 (u8s s)) (H : Hp w0 w S es) (ha : 0 < s.length → ∀ p, B = some p → p.block ∉ S) : Rd w B s.length 1 (u8s s) := by
  by_cases h0 : 0 < s.length
  · exact h.to H (ha h0)
  · have : s = [] := List.eq_nil_of_length_eq_zero (by omega)
    subst this
    exact ⟨rfl, fun _ _ _ _ hu => by simp [u8s] at hu, fun _ => rfl⟩
theorem strV_size (s : List UInt8) : (ByteArray.mk s.toArray).size = s.length := by show s.toArray.size = _; simp
theorem fresh_not {w0 w : World} {S : List Nat} {es : List Ent} (H : Hp w0 w S es) {g : Nat} (hg : w.heap.size ≤ g) : g ∉ bl es := by
  intro hb
  obtain ⟨⟨g2, T2, cs2⟩, hm, hg2⟩ := List.mem_filterMap.1 hb
  obtain ⟨j, hj⟩ := List.getElem?_of_mem hm
  simp only at hg2
  subst hg2
  have := H.lt hj
  omega
theorem wAll_cut {fs : List Fv} {q : Nat} (h : q < fs.length) (h2 : tooLong fs[q] = true) (st : WS) : wAll fs st = ⟨(wAll (fs.take q) st).out, true⟩ := by
  have h3 : wAll fs st = wAll (fs.drop (q + 1)) (wAll (fs.take (q + 1)) st) := by rw [← wAll_append, List.take_append_drop]
  rw [h3, wAll_snoc h]
  generalize wAll (fs.take q) st = s1
  have h4 : wFld fs[q] s1 = ⟨s1.out, true⟩ := by
    cases hl : s1.long with
    | true => rw [wFld_long hl, ← hl]
    | false => exact wFld_too hl h2
  rw [h4, wAll_long rfl]
/-- Cells within a row. -/
def At (cs : List Value) (o : Nat) (vs : List Value) : Prop := ∀ j u, vs[j]? = some u → cs[o + j]? = some u
theorem At.part {cs vs : List Value} {o : Nat} (h : At cs o vs) (k n : Nat) : At cs (o + k) ((vs.drop k).take n) := by
  intro j u hu
  rw [List.getElem?_take] at hu
  split at hu
  · rw [List.getElem?_drop] at hu
    rw [Nat.add_assoc]
    exact h _ _ hu
  · cases hu
theorem At.fit {cs vs : List Value} {o : Nat} (h : At cs o vs) (h0 : 0 < vs.length) : o + vs.length ≤ cs.length := by
  have := h (vs.length - 1) _ (List.getElem?_eq_getElem (by omega))
  have := lt_of_get this
  omega
def zC : Kd → Value
  | .int => .int .i64 0
  | .flag => .bool false
  | .text => .string ByteArray.empty
  | .bytes => .slice none 0 0
  | .word => .int .u32 0
  | .count => .bool false
def zCs (ks : List Kd) : List Value := ks.map zC
theorem zFP (w : World) (ok : Nat → Prop) (k : Kd) : FP w ok (zF k) (zC k) := by
  cases k
  · exact ⟨rfl, by decide, by decide⟩
  · rfl
  · rfl
  · exact ⟨none, 0, rfl, Rd.none_ _ _, fun h => absurd h (by simp)⟩
  · exact ⟨rfl, by decide⟩
  · rfl
theorem putAt_len {cs vs : List Value} {o : Nat} (h : o + vs.length ≤ cs.length) : (putAt cs o vs).length = cs.length := by
  simp [putAt]; omega
theorem putAt_get {cs vs : List Value} {o : Nat} (h : o + vs.length ≤ cs.length) (j : Nat) : (putAt cs o vs)[j]? = if j < o then cs[j]? else if j < o + vs.length then vs[j - o]? else cs[j]? := by
  unfold putAt
  by_cases h1 : j < o
  · rw [if_pos h1, List.append_assoc, List.getElem?_append_left (by rw [List.length_take]; omega), List.getElem?_take_of_lt h1]
  · rw [if_neg h1, List.append_assoc, List.getElem?_append_right (by rw [List.length_take]; omega), List.length_take, Nat.min_eq_left (by omega)]
    by_cases h2 : j < o + vs.length
    · rw [if_pos h2, List.getElem?_append_left (by omega)]
    · rw [if_neg h2, List.getElem?_append_right (by omega), List.getElem?_drop]
      congr 1; omega
theorem putAt_app {cs a c : List Value} {o : Nat} (h : o + a.length + c.length ≤ cs.length) : putAt (putAt cs o a) (o + a.length) c = putAt cs o (a ++ c) := by
  apply List.ext_getElem?
  intro j
  have e1 : o + (a ++ c).length ≤ cs.length := by rw [List.length_append]; omega
  have e2 : o + a.length ≤ cs.length := by omega
  have e3 : (o + a.length) + c.length ≤ (putAt cs o a).length := by rw [putAt_len e2]; exact h
  rw [putAt_get e3, putAt_get e1, putAt_get e2]
  by_cases h1 : j < o
  · rw [if_pos (by omega), if_pos h1, if_pos h1]
  · rw [if_neg h1, if_neg h1, List.length_append]
    by_cases h2 : j < o + a.length
    · rw [if_pos h2, if_pos h2, if_pos (by omega), List.getElem?_append_left (by omega)]
    · rw [if_neg h2, if_neg h2]
      by_cases h3 : j < o + a.length + c.length
      · rw [if_pos h3, if_pos (by omega), List.getElem?_append_right (by omega)]
        congr 1; omega
      · rw [if_neg h3, if_neg (by omega)]
theorem putAt_nil (cs : List Value) (o : Nat) : putAt cs o [] = cs := by simp [putAt]
theorem putAt_same {cs vs : List Value} {o : Nat} (h : At cs o vs) (h2 : o + vs.length ≤ cs.length) : putAt cs o vs = cs := by
  apply List.ext_getElem?
  intro j
  rw [putAt_get h2]
  split
  · rfl
  · split
    · rw [List.getElem?_eq_getElem (by omega)]
      have := h (j - o) _ (List.getElem?_eq_getElem (by omega))
      rw [show o + (j - o) = j by omega] at this
      exact this.symm
    · rfl
theorem At.behind {cs a c : List Value} {o : Nat} (h : At cs (o + a.length) c) (h2 : o + a.length ≤ cs.length) : At (putAt cs o a) (o + a.length) c := by
  intro j u hu
  rw [putAt_get h2, if_neg (by omega), if_neg (by omega)]
  exact h j u hu
theorem At.app {cs a c : List Value} {o : Nat} (h1 : At cs o a) (h2 : At cs (o + a.length) c) : At cs o (a ++ c) := by
  intro j u hu
  by_cases hj : j < a.length
  · rw [List.getElem?_append_left hj] at hu; exact h1 j u hu
  · rw [List.getElem?_append_right (by omega)] at hu
    have := h2 _ _ hu
    rwa [show o + a.length + (j - a.length) = o + j by omega] at this
theorem At.put {cs vs : List Value} {o : Nat} (h : o + vs.length ≤ cs.length) : At (putAt cs o vs) o vs := by
  intro j u hu
  have := lt_of_get hu
  rw [putAt_get h, if_neg (by omega), if_pos (by omega), Nat.add_sub_cancel_left]
  exact hu
theorem rd_snoc {q : Nat} {k : Kd} {b : List UInt8} {i e i1 e1 i2 e2 : Nat} {fd : List Fv} {f : Fv} (h : rdAll (List.replicate q k) b i e = (fd, i1, e1)) (h2 : rdF k b i1 e1 = (f, i2, e2)) : rdAll (List.replicate (q + 1) k) b i e = (fd ++ [f], i2, e2) := by
  rw [List.replicate_succ']
  refine rdAll_app h ?_
  rw [rdAll_one, h2]
theorem rd1_bytes {b : List UInt8} {i e i2 e2 : Nat} {fd : List Fv} (h : rdAll [.bytes] b i e = (fd, i2, e2)) : ∃ t, fd = [.bytes t] ∧ rdF .text b i e = (.text t, i2, e2) := by
  rw [rdAll_one] at h
  simp only [Prod.mk.injEq] at h
  refine ⟨(textStep b 65535 i e).1, h.1.symm, ?_⟩
  show (Fv.text (textStep b 65535 i e).1, (textStep b 65535 i e).2) = _
  have : (textStep b 65535 i e).2 = (i2, e2) := h.2
  rw [this]
theorem row_snoc {cs us : List Value} {o q : Nat} {v : Value} (hq : us.length = q) (h : o + q < cs.length) : (putAt cs o us).set (o + q) v = putAt cs o (us ++ [v]) := by
  subst hq
  rw [← putAt_app (by simp only [List.length_cons, List.length_nil]; omega), putAt_one (by rw [putAt_len (by omega)]; exact h)]
theorem row_put {cs us : List Value} {o q : Nat} {v : Value} (hq : us.length = q) (h : o + q < cs.length) : putAt (putAt cs o us) (o + q) [v] = putAt cs o (us ++ [v]) := by
  subst hq
  exact putAt_app (by simp only [List.length_cons, List.length_nil]; omega)
theorem rd1 {k : Kd} {b : List UInt8} {i e i2 e2 : Nat} {fd : List Fv} (h : rdAll [k] b i e = (fd, i2, e2)) : ∃ f, fd = [f] ∧ rdF k b i e = (f, i2, e2) := by
  rw [rdAll_one] at h
  simp only [Prod.mk.injEq] at h
  exact ⟨(rdF k b i e).1, h.1.symm, by rw [← h.2]⟩
theorem row_same {cs us : List Value} {o q : Nat} {v : Value} (hq : us.length = q) (h : cs[o + q]? = some v) : putAt cs o (us ++ [v]) = putAt cs o us := by
  have hl := lt_of_get h
  rw [← row_snoc hq hl]
  apply List.ext_getElem?
  intro k
  rw [List.getElem?_set]
  split
  · rename_i hk
    subst hk
    rw [if_pos (by rw [putAt_len (by omega)]; exact hl), putAt_get (by omega), if_neg (by omega), if_neg (by omega), h]
  · rfl
theorem row_keep {cs us : List Value} {o q : Nat} (hq : us.length = q) (hf : o + q ≤ cs.length) : (putAt cs o us)[o + q]? = cs[o + q]? := by
  rw [putAt_get (by omega), if_neg (by omega), if_neg (by omega)]
/-- Cells that are readable at an address, apart from what is told of. -/
structure Cl (w : World) (S : List Nat) (a : Addr) (vs : List Value) : Prop where
  cell : ∀ j u, vs[j]? = some u → w.cell? (a.add j) = some u
  apart : 0 < vs.length → a.block ∉ S
theorem add_block (a : Addr) (j : Nat) : (a.add j).block = a.block := by unfold Addr.add; split <;> rfl
theorem cell_to {w w' : World} {S : List Nat} {es : List Ent} {p : Addr} {u : Value} (h : w.cell? p = some u) (H : Hp w w' S es) (hp : p.block ∉ S) : w'.cell? p = some u := by
  have hlt := World.block_lt_of_cell? w _ h
  rw [World.cell?_of_block (w := w)]
  · exact h
  · exact H.frame _ hlt hp
theorem block_to {w w' : World} {S : List Nat} {es : List Ent} {p : Addr} {u : Value} (h : w.cell? p = some u) (H : Hp w w' S es) (hp : p.block ∉ S) : p.block ∉ bl es := by
  intro hb
  obtain ⟨⟨g, T, cs⟩, he, hg⟩ := List.mem_filterMap.1 hb
  obtain ⟨i, hi⟩ := List.getElem?_of_mem he
  simp only at hg
  subst hg
  have h3 := World.block_lt_of_cell? w _ h
  rcases H.place hi with h1 | h1
  · exact hp h1
  · omega
theorem Cl.to {w w' : World} {S : List Nat} {es : List Ent} {a : Addr} {vs : List Value} (h : Cl w S a vs) (H : Hp w w' S es) : Cl w' (bl es) a vs := by
  refine ⟨fun j u hu => cell_to (h.cell j u hu) H ?_, fun h0 => ?_⟩
  · rw [add_block]; exact h.apart (Nat.zero_lt_of_lt (lt_of_get hu))
  · have := block_to (h.cell 0 _ (List.getElem?_eq_getElem h0)) H (by rw [add_block]; exact h.apart h0)
    rwa [add_block] at this
theorem Cl.less {w : World} {S S' : List Nat} {a : Addr} {vs : List Value} (h : Cl w S a vs) (hs : ∀ b ∈ S', b ∈ S) : Cl w S' a vs := ⟨h.cell, fun h0 hb => h.apart h0 (hs _ hb)⟩
theorem Cl.part {w : World} {S : List Nat} {a : Addr} {vs us : List Value} {o : Nat} (h : Cl w S a vs) (hat : At vs o us) : Cl w S (a.add o) us := by
  refine ⟨fun j u hu => ?_, fun h0 => ?_⟩
  · rw [add_add]; exact h.cell _ _ (hat j u hu)
  · rw [add_block]; exact h.apart (by have := lt_of_get (hat 0 _ (List.getElem?_eq_getElem h0)); omega)
theorem Hp.cl {w0 w : World} {S : List Nat} {es : List Ent} {i g : Nat} {T : TypeId} {cs : List Value} (H : Hp w0 w S es) (he : es[i]? = some (some g, T, cs)) {S' : List Nat} (hg : g ∉ S') : Cl w S' ⟨g, 0, none⟩ cs := by
  refine ⟨fun j u hu => ?_, fun _ => hg⟩
  rw [addn, Nat.zero_add]; exact H.cell he hu
theorem At.self (cs : List Value) : At cs 0 cs := fun j u hu => by rw [Nat.zero_add]; exact hu
theorem At.of_take {cs us : List Value} {n o : Nat} (h : At (cs.take n) o us) : At cs o us := fun j u hu => by
  have := h j u hu
  rw [List.getElem?_take] at this
  split at this
  · exact this
  · cases this
theorem At.drop (cs : List Value) (n : Nat) : At cs n (cs.drop n) := fun j u hu => by rwa [List.getElem?_drop] at hu
theorem At.trans {cs us vs : List Value} {o p : Nat} (h1 : At cs o us) (h2 : At us p vs) : At cs (o + p) vs := fun j u hu => by rw [Nat.add_assoc]; exact h1 _ _ (h2 j u hu)
/-- Pointers to places that lie one behind the other. -/
def ptrsA (a : Addr) (o n : Nat) : List Value := (List.range n).map fun i => .pointer (some (a.add (o + i)))
theorem ptrsA_get {a : Addr} {o n i : Nat} (h : i < n) : (ptrsA a o n)[i]? = some (.pointer (some (a.add (o + i)))) := by simp [ptrsA, h]
theorem ptrsA_length (a : Addr) (o n : Nat) : (ptrsA a o n).length = n := by simp [ptrsA]
/-- Pointers to fields that lie one behind the other. -/
def ptrs (g o n : Nat) : List Value := (List.range n).map fun i => .pointer (some ⟨g, o + i, none⟩)
theorem ptrs_get {g o n i : Nat} (h : i < n) : (ptrs g o n)[i]? = some (.pointer (some ⟨g, o + i, none⟩)) := by simp [ptrs, h]
theorem ptrs_length (g o n : Nat) : (ptrs g o n).length = n := by simp [ptrs]
/-! ### The pen and the walk in memory -/
@[reducible] def pw (gp : Nat) (g : Option Nat) (cap : Nat) (sp : List Value) (st : WS) : List Ent := [(some gp, 80, [.pointer none, .slice (hd g) st.out.length cap, .bool st.long, .int .i64 0]), (g, 5, u8s st.out ++ sp)]
@[reducible] def pr (gp gr : Nat) (g : Option Nat) (c : Nat) (sp : List Value) (b : List UInt8) (i e : Nat) : List Ent := [(some gp, 80, [.pointer (some ⟨gr, 0, none⟩), .slice none 0 0, .bool false, .int .i64 0]), (some gr, 159, rc (hd g) b c i e), (g, 5, u8s b ++ sp)]
@[reducible] def vw (gp : Nat) (g : Option Nat) (cap : Nat) (sp : List Value) (st : WS) : List Ent := [(some gp, 51, [.slice (hd g) st.out.length cap, .pointer none, .bool st.long]), (g, 5, u8s st.out ++ sp)]
@[reducible] def vr (gp gr : Nat) (g : Option Nat) (c : Nat) (sp : List Value) (b : List UInt8) (i e : Nat) : List Ent := [(some gp, 51, [.slice none 0 0, .pointer (some ⟨gr, 0, none⟩), .bool false]), (some gr, 125, rc (hd g) b c i e), (g, 5, u8s b ++ sp)]
@[reducible] def prB (gp gr : Nat) (g : Option Nat) (c : Nat) (sp : List Value) (b : List UInt8) (j e : Nat) : List Ent := [(some gp, 80, [.pointer (some ⟨gr, 0, none⟩), .slice none 0 0, .bool false, .int .i64 (e : Int)]), (some gr, 159, rc (hd g) b c j 0), (g, 5, u8s b ++ sp)]
structure POk (m : Nat) (g : Option Nat) (cap : Nat) (sp : List Value) (st : WS) : Prop where
  le : st.out.length ≤ cap
  room : cap * 1 ≤ (u8s st.out ++ sp).length
  nil : g = none → cap = 0
  most : st.out.length ≤ m
theorem POk.mono {m m' : Nat} {g : Option Nat} {cap : Nat} {sp : List Value} {st : WS} (h : POk m g cap sp st) (hm : m ≤ m') : POk m' g cap sp st := ⟨h.1, h.2, h.3, Nat.le_trans h.4 hm⟩
end Go.Proofs.YtoeobicpdeklaaaGreat
