/-
  Lists in memory: cuts, predicates and orders as closures, what is found and what is let go.
-/
import Derived.Test.YtbninklfoogmdaaVk
namespace Go.Proofs.Ytbninklfoogmdaa
open Go Go.RowKit

section
variable {P : Program} {l : List Value} {w : World} {ty t : TypeId} {x : Operand} {zs : List Value} {sz bytes : Nat} {agg : Bool}
theorem ex_lo {e : TypeId} (ht : P.underlying t = some (.slice e)) (he : TyOk P e zs sz bytes agg) {a : Addr} {len c i : Nat} {lo : Int} {kl : IntKind} {xl : Operand} (hx : ev l x = some (.slice (some a) len c)) (hl : ev l xl = some (.int kl lo)) (hi : lo = (i : Int)) (h : i ≤ len) (hc : i < c) :
    Ex P l (.slice t x (some xl) none none) ty w (.value (.slice (some (a.add (i * sz))) (len - i) (c - i))) w := by
  subst hi
  have h1 := ex_cutLo (ty := ty) (w := w) ht he hx hl ⟨by omega, by omega⟩
  have h2 : cutAddr (some a) (i : Int).toNat c sz = some (a.add (i * sz)) := by
    unfold cutAddr
    rw [if_neg (by omega)]
    rfl
  rw [h2] at h1
  exact h1
theorem ex_lo0 {e : TypeId} (ht : P.underlying t = some (.slice e)) (he : TyOk P e zs sz bytes agg) {A : Option Addr} {len c i : Nat} {lo : Int} {kl : IntKind} {xl : Operand} (hx : ev l x = some (.slice A len c)) (hl : ev l xl = some (.int kl lo)) (hi : lo = (i : Int)) (h : i ≤ len) :
    ∃ v, Ex P l (.slice t x (some xl) none none) ty w (.value v) w := by
  subst hi
  exact ⟨_, ex_cutLo (ty := ty) (w := w) ht he hx hl ⟨by omega, by omega⟩⟩
theorem ex_hi {e : TypeId} (ht : P.underlying t = some (.slice e)) (he : TyOk P e zs sz bytes agg) {A : Option Addr} {len c i : Nat} {hi : Int} {kh : IntKind} {xh : Operand} (hx : ev l x = some (.slice A len c)) (hh : ev l xh = some (.int kh hi)) (hi' : hi = (i : Int)) (h : i ≤ c) :
    Ex P l (.slice t x none (some xh) none) ty w (.value (.slice A i c)) w := by
  subst hi'
  exact ex_cutHi ht he hx hh ⟨by omega, by omega⟩
end
/-- A slice in new memory of its own: its cells, and room behind them. -/
def Rw (w0 w' : World) (r : Value) (T sz n : Nat) (cs : List Value) : Prop :=
  ∃ g cap sp, r = .slice (hd g) n cap ∧ n ≤ cap ∧ cap * sz ≤ (cs ++ sp).length ∧ (g = none → cap = 0) ∧ Hp w0 w' [] [(g, T, cs ++ sp)]
theorem nminl {a b : Nat} (h : a ≤ b) : Nat.min a b = a := Nat.min_eq_left h
theorem Rd.headN {w : World} {A : Option Addr} {n sz i : Nat} {xs : List Value} (h : Rd w A n sz xs) (hi : i ≤ n) (hA : A = none → i = 0) : Rd w A i sz (xs.take (i * sz)) := by
  have hm : i * sz ≤ n * sz := Nat.mul_le_mul_right _ hi
  refine ⟨?_, fun a ha j u hu => ?_, hA⟩
  · rw [List.length_take, h.len]; omega
  · rw [List.getElem?_take] at hu
    split at hu
    · exact h.cells a ha j u hu
    · cases hu
/-- A closure that tells of an element whether it is so; what it has captured lies in one block. -/
def Prd (P : Program) (k : FuncId) (gc : Nat) (pr : List Value → Bool) (ps : List (List Value)) (w0 : World) : Prop :=
  goFn P k = true ∧ gc < w0.heap.size ∧ ∀ w1, w1.heap[gc]? = w0.heap[gc]? → ∀ p ∈ ps, Does P k #[.agg p.toArray, .pointer (some ⟨gc, 0, none⟩)] w1 (fun r w' => r = .bool (pr p) ∧ Hp w1 w' [] [])
theorem Prd.to {P : Program} {k : FuncId} {gc : Nat} {pr : List Value → Bool} {ps : List (List Value)} {w0 w : World} {S : List Nat} {es : List Ent} (h : Prd P k gc pr ps w0) (H : Hp w0 w S es) (hS : gc ∉ S) : Prd P k gc pr ps w :=
  ⟨h.1, Nat.lt_of_lt_of_le h.2.1 H.size, fun w1 h1 => h.2.2 w1 (h1.trans (H.frame gc h.2.1 hS))⟩
/-- A function that orders elements against one thing. -/
structure Cmp (P : Program) (k : FuncId) (tv : Value) (cf : List Value → Int) (ps : List (List Value)) : Prop where
  go : goFn P k = true
  does : ∀ w1, ∀ p ∈ ps, Does P k #[.agg p.toArray, tv] w1 (fun r w' => r = .int .i64 (cf p) ∧ Hp w1 w' [] [])
  mono : ∀ (i j : Nat) (p q : List Value), i ≤ j → ps[i]? = some p → ps[j]? = some q → cf q < 0 → cf p < 0
/-- Where a thing stands, or would stand. -/
structure Found (ps : List (List Value)) (cf : List Value → Int) (i : Nat) (f : Bool) : Prop where
  le : i ≤ ps.length
  lo : ∀ (k : Nat) (p : List Value), k < i → ps[k]? = some p → cf p < 0
  hi : ∀ (k : Nat) (p : List Value), i ≤ k → ps[k]? = some p → 0 ≤ cf p
  yes : f = true → ∃ p, ps[i]? = some p ∧ cf p = 0
  no : f = false → ∀ p, ps[i]? = some p → cf p ≠ 0
def IdxR (ps : List (List Value)) (pr : List Value → Bool) (y : Int) : Prop :=
  (y = -1 ∧ ∀ p ∈ ps, pr p = false) ∨ ∃ (j : Nat) (p : List Value), y = (j : Int) ∧ ps[j]? = some p ∧ pr p = true ∧ ∀ q ∈ ps.take j, pr q = false
theorem take_snoc {α : Type} {l : List α} {j : Nat} {p : α} (h : l[j]? = some p) : l.take (j + 1) = l.take j ++ [p] := by
  obtain ⟨hl, rfl⟩ := List.getElem?_eq_some_iff.1 h
  rw [List.take_succ_eq_append_getElem hl]
theorem get_of {α : Type} {l : List α} {j : Nat} (h : j < l.length) : ∃ p, l[j]? = some p := ⟨_, List.getElem?_eq_getElem h⟩
theorem mem_of {α : Type} {l : List α} {j : Nat} {p : α} (h : l[j]? = some p) : p ∈ l := List.mem_of_getElem? h
theorem filter_none {ps : List (List Value)} {pr : List Value → Bool} (h : ∀ p ∈ ps, pr p = false) : ps.filter (fun p => !pr p) = ps := List.filter_eq_self.2 fun p hp => by rw [h p hp]; rfl
theorem take_all_snoc {ps : List (List Value)} {pr : List Value → Bool} {j : Nat} {p : List Value} (h : ∀ q ∈ ps.take j, pr q = false) (hp : ps[j]? = some p) (hf : pr p = false) : ∀ q ∈ ps.take (j + 1), pr q = false := by
  rw [take_snoc hp]
  intro q hq
  rcases List.mem_append.1 hq with hq | hq
  · exact h q hq
  · rw [List.mem_singleton.1 hq]; exact hf
/-- Of elements those that stay have moved to the front: so many were looked at. -/
structure Del (ps qs : List (List Value)) (pr : List Value → Bool) (i j sz : Nat) : Prop where
  len : qs.length = ps.length
  pl : Pl sz qs
  lt : i < j
  le : j ≤ ps.length
  rest : qs.drop j = ps.drop j
  kept : qs.take i = (ps.take j).filter fun p => !pr p
theorem Del.start {ps : List (List Value)} {pr : List Value → Bool} {j sz : Nat} {p : List Value} (hp : Pl sz ps) (hj : ps[j]? = some p) (ht : pr p = true) (hn : ∀ q ∈ ps.take j, pr q = false) : Del ps ps pr j (j + 1) sz := by
  refine ⟨rfl, hp, by omega, lt_of_get hj, rfl, ?_⟩
  rw [take_snoc hj, List.filter_append, filter_none hn]
  simp [ht]
theorem Del.skip {ps qs : List (List Value)} {pr : List Value → Bool} {i j sz : Nat} {p : List Value} (h : Del ps qs pr i j sz) (hj : ps[j]? = some p) (ht : pr p = true) : Del ps qs pr i (j + 1) sz := by
  have h1 := h.lt
  refine ⟨h.len, h.pl, by omega, lt_of_get hj, ?_, ?_⟩
  · have := congrArg (List.drop 1) h.rest
    simpa [List.drop_drop] using this
  · rw [take_snoc hj, List.filter_append, h.kept]
    simp [ht]
theorem Del.keep {ps qs : List (List Value)} {pr : List Value → Bool} {i j sz : Nat} {p : List Value} (h : Del ps qs pr i j sz) (hj : ps[j]? = some p) (ht : pr p = false) (hl : p.length = sz) : Del ps (qs.set i p) pr (i + 1) (j + 1) sz := by
  have h1 := h.lt
  have h2 := lt_of_get hj
  have h3 := h.len
  refine ⟨by rw [List.length_set]; exact h.len, h.pl.set_len hl, by omega, h2, ?_, ?_⟩
  · rw [List.drop_set_of_lt (by omega)]
    have := congrArg (List.drop 1) h.rest
    simpa [List.drop_drop] using this
  · rw [take_snoc hj, List.filter_append, ← h.kept]
    have h4 : (qs.set i p)[i]? = some p := by rw [List.getElem?_set_self (by omega)]
    rw [take_snoc h4, List.take_set_of_le (Nat.le_refl i)]
    simp [ht]
theorem Del.at {ps qs : List (List Value)} {pr : List Value → Bool} {i j sz : Nat} (h : Del ps qs pr i j sz) : qs[j]? = ps[j]? := by
  have h1 := congrArg (fun l => l[0]?) h.rest
  simpa using h1
theorem Del.done {ps qs : List (List Value)} {pr : List Value → Bool} {i sz : Nat} (h : Del ps qs pr i ps.length sz) : qs.take i = (ps.filter fun p => !pr p) ∧ (ps.filter fun p => !pr p).length = i := by
  have h1 := h.kept
  rw [List.take_length] at h1
  refine ⟨h1, ?_⟩
  have h2 := h.lt
  have h3 := h.len
  rw [← h1, List.length_take]; omega
theorem Del.cells {ps qs : List (List Value)} {pr : List Value → Bool} {i sz n : Nat} {sp vs : List Value} (h : Del ps qs pr i ps.length sz) (_ : n = 0) : putAt (qs.flatten ++ sp) (n + i * sz) vs = (ps.filter fun p => !pr p).flatten ++ (vs ++ (qs.flatten ++ sp).drop (n + i * sz + vs.length)) := by
  subst n
  have h1 := h.lt
  have h2 := h.len
  have h3 : i * sz ≤ qs.flatten.length := by rw [h.pl.len]; exact Nat.mul_le_mul_right _ (by omega)
  unfold putAt
  rw [Nat.zero_add, List.take_append_of_le_length h3, h.pl.take_, h.done.1, List.append_assoc]
theorem putAt_len {cs vs : List Value} {o : Nat} (h : o + vs.length ≤ cs.length) : (putAt cs o vs).length = cs.length := by
  simp only [putAt, List.length_append, List.length_take, List.length_drop]; omega
/-- A thing put in between. -/
theorem ins_new {cs vs zs sp : List Value} {i n sz : Nat} {ps : List (List Value)} (hp : Pl sz ps) (hn : ps.length = n) (hi : i ≤ n) (hv : vs.length = sz) (hz : zs.length = (n + 1 - i) * sz) (hc : cs = ((ps.flatten.take (i * sz)) ++ zs) ++ sp) :
    putAt (putAt cs (i * sz) vs) ((i + 1) * sz) (ps.flatten.drop (i * sz)) = (ps.take i ++ vs :: ps.drop i).flatten ++ sp := by
  have hl : (ps.flatten.take (i * sz)).length = i * sz := by rw [List.length_take, hp.len, hn]; exact Nat.min_eq_left (Nat.mul_le_mul_right _ hi)
  have hd : (ps.flatten.drop (i * sz)).length = (n - i) * sz := by rw [List.length_drop, hp.len, hn, ← Nat.sub_mul]
  have hz2 : zs.length = sz + (n - i) * sz := by rw [hz, show n + 1 - i = (n - i) + 1 by omega, Nat.add_mul]; omega
  have hs : (i + 1) * sz = i * sz + sz := by rw [Nat.add_mul]; omega
  subst hc
  obtain ⟨a, ha⟩ : ∃ a, ps.flatten.take (i * sz) = a := ⟨_, rfl⟩
  obtain ⟨b, hb⟩ : ∃ b, ps.flatten.drop (i * sz) = b := ⟨_, rfl⟩
  rw [List.flatten_append, List.flatten_cons, ← hp.take_, ← hp.drop_, ha, hb]
  rw [ha] at hl
  rw [hb] at hd
  have e1 : putAt ((a ++ zs) ++ sp) (i * sz) vs = (a ++ vs) ++ (zs.drop sz ++ sp) := by
    unfold putAt
    rw [List.append_assoc a, List.take_left' hl, hv, ← List.drop_drop, List.drop_left' hl, List.drop_append_of_le_length (by omega)]
  have hl2 : (a ++ vs).length = (i + 1) * sz := by rw [List.length_append, hl, hv, hs]
  have hl3 : (zs.drop sz).length = b.length := by rw [List.length_drop, hz2, hd]; omega
  rw [e1]
  unfold putAt
  rw [List.take_left' hl2, ← List.drop_drop, List.drop_left' hl2, List.drop_left' hl3]
  simp
theorem ins_in {vs sp : List Value} {i n sz : Nat} {ps : List (List Value)} (hp : Pl sz ps) (hn : ps.length = n) (hi : i ≤ n) (hv : vs.length = sz) (hs : sz ≤ sp.length) :
    putAt (putAt (ps.flatten ++ sp) ((i + 1) * sz) (ps.flatten.drop (i * sz))) (i * sz) vs = (ps.take i ++ vs :: ps.drop i).flatten ++ sp.drop sz := by
  have hl : (ps.flatten.take (i * sz)).length = i * sz := by rw [List.length_take, hp.len, hn]; exact Nat.min_eq_left (Nat.mul_le_mul_right _ hi)
  have hd : (ps.flatten.drop (i * sz)).length = (n - i) * sz := by rw [List.length_drop, hp.len, hn, ← Nat.sub_mul]
  have hss : (i + 1) * sz = i * sz + sz := by rw [Nat.add_mul]; omega
  have hall : ps.flatten.length = i * sz + (n - i) * sz := by rw [hp.len, hn, ← Nat.add_mul]; congr 1; omega
  have e0 : ps.flatten ++ sp = ps.flatten.take (i * sz) ++ (ps.flatten.drop (i * sz) ++ sp) := by rw [← List.append_assoc, List.take_append_drop]
  obtain ⟨a, ha⟩ : ∃ a, ps.flatten.take (i * sz) = a := ⟨_, rfl⟩
  obtain ⟨b, hb⟩ : ∃ b, ps.flatten.drop (i * sz) = b := ⟨_, rfl⟩
  rw [e0, List.flatten_append, List.flatten_cons, ← hp.take_, ← hp.drop_, ha, hb]
  rw [ha] at hl
  rw [hb] at hd
  have e1 : putAt (a ++ (b ++ sp)) ((i + 1) * sz) b = a ++ ((b ++ sp).take sz ++ b) ++ sp.drop sz := by
    unfold putAt
    rw [hss, List.take_append, hl, List.take_of_length_le (by omega), Nat.add_sub_cancel_left, List.drop_append, hl, List.drop_of_length_le (by omega), show i * sz + sz + b.length - i * sz = b.length + sz by omega, ← List.drop_drop, List.drop_left]
    simp
  rw [e1]
  have h5 : ((b ++ sp).take sz).length = sz := by rw [List.length_take, List.length_append]; omega
  unfold putAt
  rw [List.append_assoc a, List.take_left' hl, hv, ← List.drop_drop, List.drop_left' hl, List.append_assoc ((b ++ sp).take sz), List.drop_left' h5]
  simp
end Go.Proofs.Ytbninklfoogmdaa
