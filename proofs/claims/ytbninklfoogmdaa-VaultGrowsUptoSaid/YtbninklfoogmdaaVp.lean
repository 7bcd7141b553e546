/-
  Plain laws: things put into sorted lists.
-/
import Derived.Test.YtbninklfoogmdaaVl
namespace Go.Proofs.Ytbninklfoogmdaa
open Go Go.RowKit

def cmpI (a b : Int) : Int := if a < b then -1 else if b < a then 1 else 0
theorem cmpI_lt {a b : Int} : cmpI a b < 0 ↔ a < b := by unfold cmpI; repeat' split; all_goals omega
theorem cmpI_gt {a b : Int} : 0 < cmpI a b ↔ b < a := by unfold cmpI; repeat' split; all_goals omega
theorem cmpI_eq {a b : Int} : cmpI a b = 0 ↔ a = b := by unfold cmpI; repeat' split; all_goals omega
/-- A list whose things rise, strictly: against one thing. -/
def Rise {X : Type} (cf : X → Int) (xs : List X) : Prop := ∀ (i j : Nat) (a b : X), i < j → xs[i]? = some a → xs[j]? = some b → 0 ≤ cf a → 0 < cf b
theorem Rise.tail {X : Type} {cf : X → Int} {x : X} {xs : List X} (h : Rise cf (x :: xs)) : Rise cf xs := fun i j a b hij ha hb h0 => h (i + 1) (j + 1) a b (by omega) (by simpa using ha) (by simpa using hb) h0
theorem filter_all {X : Type} {f : X → Bool} {xs : List X} (h : ∀ x ∈ xs, f x = true) : xs.filter f = xs := List.filter_eq_self.2 h
theorem filter_no {X : Type} {f : X → Bool} {xs : List X} (h : ∀ x ∈ xs, f x = false) : xs.filter f = [] := List.filter_eq_nil_iff.2 fun x hx => by rw [h x hx]; simp
theorem Rise.put {X : Type} {cf : X → Int} {v : X} : ∀ {xs : List X} {i : Nat} {f : Bool}, Rise cf xs → i ≤ xs.length → (∀ (k : Nat) (a : X), k < i → xs[k]? = some a → cf a < 0) → (∀ (k : Nat) (a : X), i ≤ k → xs[k]? = some a → 0 ≤ cf a) →
    (f = true → ∃ a, xs[i]? = some a ∧ cf a = 0) → (f = false → ∀ a, xs[i]? = some a → cf a ≠ 0) →
    xs.filter (fun x => decide (cf x < 0)) ++ v :: xs.filter (fun x => decide (0 < cf x)) = if f = true then xs.set i v else xs.take i ++ v :: xs.drop i
  | [], i, f, _, hi, _, _, hy, _ => by
    obtain rfl : i = 0 := by simpa using hi
    cases f with
    | true => obtain ⟨a, ha, _⟩ := hy rfl; simp at ha
    | false => simp
  | x :: xs, 0, f, hr, _, _, hhi, hy, hno => by
    have h0 : 0 ≤ cf x := hhi 0 x (Nat.le_refl _) rfl
    have hall : ∀ a ∈ xs, 0 < cf a := fun a ha => by
      obtain ⟨k, hk⟩ := List.getElem?_of_mem ha
      exact hr 0 (k + 1) x a (by omega) rfl (by simpa using hk) h0
    have e1 : xs.filter (fun x => decide (cf x < 0)) = [] := filter_no fun a ha => by have := hall a ha; simp; omega
    have e2 : xs.filter (fun x => decide (0 < cf x)) = xs := filter_all fun a ha => by simpa using hall a ha
    rw [List.filter_cons, List.filter_cons, e1, e2, if_neg (by simp; omega)]
    cases f with
    | true =>
      obtain ⟨a, ha, hz⟩ := hy rfl
      simp only [List.getElem?_cons_zero, Option.some.injEq] at ha
      subst ha
      rw [if_neg (by simp; omega)]
      simp
    | false =>
      have := hno rfl x rfl
      rw [if_pos (by simp; omega)]
      simp
  | x :: xs, i + 1, f, hr, hi, hlo, hhi, hy, hno => by
    have h0 : cf x < 0 := hlo 0 x (by omega) rfl
    have ih := Rise.put (v := v) (i := i) (f := f) hr.tail (by simpa using hi) (fun k a hk ha => hlo (k + 1) a (by omega) (by simpa using ha)) (fun k a hk ha => hhi (k + 1) a (by omega) (by simpa using ha)) (fun h => by simpa using hy h) (fun h a ha => hno h a (by simpa using ha))
    rw [List.filter_cons, List.filter_cons, if_pos (by simpa using h0), if_neg (by simp; omega), List.cons_append, ih]
    cases f <;> simp
/-- .. as the cells tell it. -/
theorem Found.put {X : Type} {R : List Value → X → Prop} {cp : List Value → Int} {cf : X → Int} {ps : List (List Value)} {xs : List X} {i : Nat} {f : Bool} {v : X} (h : Found ps cp i f) (h2 : All2 R ps xs) (hc : ∀ p x, R p x → cp p = cf x) (hr : Rise cf xs) :
    xs.filter (fun x => decide (cf x < 0)) ++ v :: xs.filter (fun x => decide (0 < cf x)) = if f = true then xs.set i v else xs.take i ++ v :: xs.drop i := by
  refine hr.put (by rw [← h2.len]; exact h.le) (fun k a hk ha => ?_) (fun k a hk ha => ?_) (fun hf => ?_) (fun hf a ha => ?_)
  · obtain ⟨p, hp, hR⟩ := h2.get ha
    rw [← hc p a hR]; exact h.lo k p hk hp
  · obtain ⟨p, hp, hR⟩ := h2.get ha
    rw [← hc p a hR]; exact h.hi k p hk hp
  · obtain ⟨p, hp, h0⟩ := h.yes hf
    obtain ⟨x, hx, hR⟩ := h2.getL hp
    exact ⟨x, hx, by rw [← hc p x hR]; exact h0⟩
  · obtain ⟨p, hp, hR⟩ := h2.get ha
    rw [← hc p a hR]; exact h.no hf p hp
/-- What orders the things orders their cells. -/
theorem Rise.mono {X : Type} {R : List Value → X → Prop} {cp : List Value → Int} {cf : X → Int} {ps : List (List Value)} {xs : List X} (hr : Rise cf xs) (h2 : All2 R ps xs) (hc : ∀ p x, R p x → cp p = cf x) : ∀ (i j : Nat) (p q : List Value), i ≤ j → ps[i]? = some p → ps[j]? = some q → cp q < 0 → cp p < 0 := by
  intro i j p q hij hp hq h0
  rcases Nat.eq_or_lt_of_le hij with rfl | h
  · rw [hp] at hq; cases hq; exact h0
  · obtain ⟨x, hx, hR⟩ := h2.getL hp
    obtain ⟨y, hy, hR2⟩ := h2.getL hq
    rw [hc p x hR]
    rw [hc q y hR2] at h0
    rcases Int.lt_or_le (cf x) 0 with h3 | h3
    · exact h3
    · have := hr i j x y h hx hy h3; omega

/-! Votes. -/
def vtCf (n : Int) (p : List Value) : Int := match p with
  | .int _ s :: _ => cmpI s n
  | _ => 0
theorem vtCf_eq {w : World} {ok : Nat → Prop} {n : Int} {p : List Value} {x : Vt} (h : VtR w ok p x) : vtCf n p = cmpI x.slot n := by obtain ⟨_, _, rfl, _⟩ := h; rfl
theorem vts_rise {p : Bal} {first : Int} : ∀ {l : List Vt} {n : Int}, vtsOk p first n l = true → (∀ x ∈ l, n ≤ x.slot) ∧ ∀ (i j : Nat) (a b : Vt), i < j → l[i]? = some a → l[j]? = some b → a.slot < b.slot
  | [], _, _ => ⟨(fun _ h => by cases h), fun i j a b _ h => by simp at h⟩
  | v :: l, n, h => by
    simp only [vtsOk, Bool.and_eq_true, decide_eq_true_eq] at h
    obtain ⟨h1, h2⟩ := vts_rise h.2
    refine ⟨fun x hx => ?_, fun i j a b hij ha hb => ?_⟩
    · rcases List.mem_cons.1 hx with rfl | hx
      · exact h.1.1
      · have := h1 x hx; omega
    · obtain ⟨j, rfl⟩ : ∃ k, j = k + 1 := ⟨j - 1, by omega⟩
      simp only [List.getElem?_cons_succ] at hb
      cases i with
      | zero =>
        simp only [List.getElem?_cons_zero, Option.some.injEq] at ha
        subst ha
        have := h1 b (List.mem_of_getElem? hb); omega
      | succ i =>
        simp only [List.getElem?_cons_succ] at ha
        exact h2 i j a b (by omega) ha hb
theorem rise_vt {l : List Vt} (h : ∀ (i j : Nat) (a b : Vt), i < j → l[i]? = some a → l[j]? = some b → a.slot < b.slot) (n : Int) : Rise (fun x : Vt => cmpI x.slot n) l := fun i j a b hij ha hb h0 => by
  have h1 := h i j a b hij ha hb
  have h0' : 0 ≤ cmpI a.slot n := h0
  have h2 : ¬ a.slot < n := fun hh => by have := cmpI_lt.2 hh; omega
  exact cmpI_gt.2 (by omega)
theorem putVt_eq (l : List Vt) (v : Vt) : putVt l v = l.filter (fun x => decide (cmpI x.slot v.slot < 0)) ++ v :: l.filter (fun x => decide (0 < cmpI x.slot v.slot)) := by
  unfold putVt
  congr 1
  · exact List.filter_congr fun x _ => by rw [decide_eq_decide]; exact cmpI_lt.symm
  · congr 1
    exact List.filter_congr fun x _ => by rw [decide_eq_decide]; exact cmpI_gt.symm
theorem vts_len {p : Bal} {first : Int} : ∀ {l : List Vt} {n : Int}, vtsOk p first n l = true → n ≤ first + 16 → (l.length : Int) ≤ first + 16 - n
  | [], n, _, h => by simp; omega
  | v :: l, n, h, hn => by
    simp only [vtsOk, Bool.and_eq_true, decide_eq_true_eq] at h
    have := vts_len h.2 (by omega)
    rw [List.length_cons]; omega

/-! Marks. -/
def mkCf (n : Int) (p : List Value) : Int := match p with
  | .int _ s :: _ => cmpI s n
  | _ => 0
theorem mkCf_eq {n : Int} {p : List Value} {x : Mk} (h : MkR p x) : mkCf n p = cmpI x.client n := by rw [h]; rfl
theorem mks_rise : ∀ {l : List Mk} {n : Int}, mksOk n l → (∀ x ∈ l, n < x.client ∧ x.client ≤ 8 ∧ 1 ≤ x.seq ∧ x.seq ≤ 4611686018427387904) ∧ ∀ (i j : Nat) (a b : Mk), i < j → l[i]? = some a → l[j]? = some b → a.client < b.client
  | [], _, _ => ⟨(fun _ h => by cases h), fun i j a b _ h => by simp at h⟩
  | v :: l, n, h => by
    obtain ⟨h1, h2⟩ := mks_rise h.2.2.2.2
    refine ⟨fun x hx => ?_, fun i j a b hij ha hb => ?_⟩
    · rcases List.mem_cons.1 hx with rfl | hx
      · exact ⟨h.1, h.2.1, h.2.2.1, h.2.2.2.1⟩
      · have h3 := h1 x hx
        have h4 := h.1
        exact ⟨by omega, h3.2⟩
    · obtain ⟨j, rfl⟩ : ∃ k, j = k + 1 := ⟨j - 1, by omega⟩
      simp only [List.getElem?_cons_succ] at hb
      cases i with
      | zero =>
        simp only [List.getElem?_cons_zero, Option.some.injEq] at ha
        subst ha
        exact (h1 b (List.mem_of_getElem? hb)).1
      | succ i =>
        simp only [List.getElem?_cons_succ] at ha
        exact h2 i j a b (by omega) ha hb
theorem rise_mk {l : List Mk} (h : ∀ (i j : Nat) (a b : Mk), i < j → l[i]? = some a → l[j]? = some b → a.client < b.client) (n : Int) : Rise (fun x : Mk => cmpI x.client n) l := fun i j a b hij ha hb h0 => by
  have h1 := h i j a b hij ha hb
  have h0' : 0 ≤ cmpI a.client n := h0
  have h2 : ¬ a.client < n := fun hh => by have := cmpI_lt.2 hh; omega
  exact cmpI_gt.2 (by omega)
theorem putMk_eq (l : List Mk) (v : Mk) : putMk l v = l.filter (fun x => decide (cmpI x.client v.client < 0)) ++ v :: l.filter (fun x => decide (0 < cmpI x.client v.client)) := by
  unfold putMk
  congr 1
  · exact List.filter_congr fun x _ => by rw [decide_eq_decide]; exact cmpI_lt.symm
  · congr 1
    exact List.filter_congr fun x _ => by rw [decide_eq_decide]; exact cmpI_gt.symm

/-! Rights. -/
def ordR (a b : Rt) : Int := if a.g ≠ b.g then (if a.g < b.g then -1 else 1) else Lib.compareBytes a.key b.key
theorem cb_lt : ∀ a b : Blk, Lib.compareBytes a b < 0 ↔ Op.bytesLess a b = true
  | [], [] => by simp [Lib.compareBytes, Op.bytesLess]
  | [], b :: bs => by simp [Lib.compareBytes, Op.bytesLess]
  | a :: as', [] => by simp [Lib.compareBytes, Op.bytesLess]
  | a :: x, b :: y => by
    have ih := cb_lt x y
    unfold Lib.compareBytes Op.bytesLess
    by_cases h1 : a < b
    · simp [h1]
    · by_cases h2 : b < a
      · have h3 : ¬ a = b := fun h => by subst h; exact absurd h2 h1
        simp [h1, h2, h3]
      · have h3 : a = b := UInt8.le_antisymm (UInt8.not_lt.1 h2) (UInt8.not_lt.1 h1)
        subst h3
        simp [ih]
theorem cb_gt : ∀ a b : Blk, 0 < Lib.compareBytes a b ↔ Op.bytesLess b a = true
  | [], [] => by simp [Lib.compareBytes, Op.bytesLess]
  | [], b :: bs => by simp [Lib.compareBytes, Op.bytesLess]
  | a :: as', [] => by simp [Lib.compareBytes, Op.bytesLess]
  | a :: x, b :: y => by
    have ih := cb_gt x y
    unfold Lib.compareBytes Op.bytesLess
    by_cases h1 : a < b
    · have h3 : ¬ b < a := fun h => UInt8.lt_irrefl _ (UInt8.lt_trans h1 h)
      have h4 : ¬ b = a := fun h => by subst h; exact UInt8.lt_irrefl _ h1
      simp [h1, h3, h4]
    · by_cases h2 : b < a
      · simp [h1, h2]
      · have h3 : a = b := UInt8.le_antisymm (UInt8.not_lt.1 h2) (UInt8.not_lt.1 h1)
        subst h3
        simp [ih]
theorem bl_trans : ∀ {a b c : Blk}, Op.bytesLess a b = true → Op.bytesLess b c = true → Op.bytesLess a c = true
  | _, [], _, h, _ => by unfold Op.bytesLess at h; cases h
  | _, _ :: _, [], _, h => by unfold Op.bytesLess at h; cases h
  | [], _ :: _, _ :: _, _, _ => by unfold Op.bytesLess; rfl
  | a :: x, b :: y, c :: z, h1, h2 => by
    unfold Op.bytesLess at h1 h2 ⊢
    simp only [Bool.or_eq_true, Bool.and_eq_true, decide_eq_true_eq, beq_iff_eq] at h1 h2 ⊢
    rcases h1 with h1 | ⟨rfl, h1⟩ <;> rcases h2 with h2 | ⟨rfl, h2⟩
    · exact .inl (UInt8.lt_trans h1 h2)
    · exact .inl h1
    · exact .inl h2
    · exact .inr ⟨rfl, bl_trans h1 h2⟩
theorem bl_irr : ∀ a : Blk, Op.bytesLess a a = false
  | [] => rfl
  | a :: x => by unfold Op.bytesLess; simp [bl_irr x]
theorem ordR_lt {a b : Rt} : ordR a b < 0 ↔ ltR a b = true := by
  unfold ordR ltR
  by_cases h : a.g = b.g
  · rw [if_neg (by simpa using h)]
    simp [h, cb_lt]
  · rw [if_pos h]
    by_cases h2 : a.g < b.g <;> simp [h, h2]
theorem ordR_gt {a b : Rt} : 0 < ordR a b ↔ ltR b a = true := by
  unfold ordR ltR
  by_cases h : a.g = b.g
  · rw [if_neg (by simpa using h)]
    simp [h, cb_gt]
  · rw [if_pos h]
    by_cases h2 : a.g < b.g
    · simp [h2, Ne.symm h]; omega
    · simp [h2, Ne.symm h]; omega
theorem ltR_trans {a b c : Rt} (h1 : ltR a b = true) (h2 : ltR b c = true) : ltR a c = true := by
  unfold ltR at *
  simp only [Bool.or_eq_true, Bool.and_eq_true, decide_eq_true_eq] at *
  rcases h1 with h1 | ⟨h1, h3⟩ <;> rcases h2 with h2 | ⟨h2, h4⟩
  · exact .inl (by omega)
  · exact .inl (by omega)
  · exact .inl (by omega)
  · exact .inr ⟨by omega, bl_trans h3 h4⟩
theorem ltR_irr (a : Rt) : ltR a a = false := by unfold ltR; simp [bl_irr]
theorem cb_zero : ∀ a b : Blk, Lib.compareBytes a b = 0 → a = b
  | [], [], _ => rfl
  | [], b :: bs, h => by simp [Lib.compareBytes] at h
  | a :: as', [], h => by simp [Lib.compareBytes] at h
  | a :: x, b :: y, h => by
    unfold Lib.compareBytes at h
    by_cases h1 : a < b
    · simp [h1] at h
    · by_cases h2 : b < a
      · simp [h1, h2] at h
      · have h3 : a = b := UInt8.le_antisymm (UInt8.not_lt.1 h2) (UInt8.not_lt.1 h1)
        subst h3
        rw [if_neg h1, if_neg h1] at h
        rw [cb_zero x y h]
theorem ordR_zero {a b : Rt} (h : ordR a b = 0) : a.g = b.g ∧ a.key = b.key := by
  unfold ordR at h
  by_cases hg : a.g = b.g
  · rw [if_neg (by simpa using hg)] at h
    exact ⟨hg, cb_zero _ _ h⟩
  · rw [if_pos hg] at h
    split at h <;> cases h
theorem rts_rise : ∀ {l : List Rt}, rtsOk l → (∀ x ∈ l, mayR x) ∧ ∀ (i j : Nat) (a b : Rt), i < j → l[i]? = some a → l[j]? = some b → ltR a b = true
  | [], _ => ⟨(fun _ h => by cases h), fun i j a b _ h => by simp at h⟩
  | v :: l, h => by
    obtain ⟨h1, h2⟩ := rts_rise h.2.2
    refine ⟨fun x hx => ?_, fun i j a b hij ha hb => ?_⟩
    · rcases List.mem_cons.1 hx with rfl | hx
      · exact h.1
      · exact h1 x hx
    · obtain ⟨j, rfl⟩ : ∃ k, j = k + 1 := ⟨j - 1, by omega⟩
      simp only [List.getElem?_cons_succ] at hb
      cases i with
      | zero =>
        simp only [List.getElem?_cons_zero, Option.some.injEq] at ha
        subst ha
        exact h.2.1 b (List.mem_of_getElem? hb)
      | succ i =>
        simp only [List.getElem?_cons_succ] at ha
        exact h2 i j a b (by omega) ha hb
theorem ordR_of {a b r : Rt} (h : ltR a b = true) (h0 : 0 ≤ ordR a r) : 0 < ordR b r := by
  rcases Int.lt_or_eq_of_le h0 with h1 | h1
  · exact ordR_gt.2 (ltR_trans (ordR_gt.1 h1) h)
  · obtain ⟨e1, e2⟩ := ordR_zero h1.symm
    refine ordR_gt.2 ?_
    unfold ltR at h ⊢
    rw [← e1, ← e2]; exact h
theorem rise_rt {l : List Rt} (h : ∀ (i j : Nat) (a b : Rt), i < j → l[i]? = some a → l[j]? = some b → ltR a b = true) (r : Rt) : Rise (fun x : Rt => ordR x r) l := fun i j a b hij ha hb h0 => ordR_of (h i j a b hij ha hb) h0
theorem putRt_eq (l : List Rt) (v : Rt) : putRt l v = l.filter (fun x => decide (ordR x v < 0)) ++ v :: l.filter (fun x => decide (0 < ordR x v)) := by
  unfold putRt
  congr 1
  · exact List.filter_congr fun x _ => by
      have := ordR_lt (a := x) (b := v)
      cases h : ltR x v <;> simp_all
  · congr 1
    exact List.filter_congr fun x _ => by
      have := ordR_gt (a := x) (b := v)
      cases h : ltR v x <;> simp_all
end Go.Proofs.Ytbninklfoogmdaa
