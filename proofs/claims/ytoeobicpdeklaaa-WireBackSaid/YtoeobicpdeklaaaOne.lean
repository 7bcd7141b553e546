/-
  Whatever bytes are read as a thing: written again it is these bytes.
-/
import Derived.Test.YtoeobicpdeklaaaWr
namespace Go.Proofs.Ytoeobicpdeklaaa
open Go Go.RowKit

theorem take_mid (b : List UInt8) {i j : Nat} (h : i ≤ j) : b.take j = b.take i ++ (b.drop i).take (j - i) := by
  rw [← List.take_add, Nat.add_sub_cancel' h]
theorem text_short {b : List UInt8} (h : (textOf b 65535).2.2 = 0) : decide (65535 < (textOf b 65535).1.length) = false := by
  rw [decide_eq_false]
  have hc := (countedOf_bd b 65535).2.2.2.2.2
  unfold textOf at h ⊢
  split at h
  · exact absurd h (by assumption)
  · rename_i h1
    rw [if_neg h1]
    split at h
    · cases h
    · rename_i h2
      rw [if_neg h2]
      obtain ⟨_, c2, _, c4⟩ := hc (by omega)
      have : ((numOf b).1 : Int) ≤ max 65535 0 := c4
      simp only [List.length_take]
      omega
theorem fld_one {k : Kd} {b : List UInt8} {i j : Nat} {f : Fv} (hi : i ≤ b.length) (hb : b.length ≤ 65536) (h : rdF k b i 0 = (f, j, 0)) : i ≤ j ∧ j ≤ b.length ∧ wFld f ⟨b.take i, false⟩ = ⟨b.take j, false⟩ := by
  have key : ∀ (n : Nat) (f : Fv), n ≤ (b.drop i).length → encF f = (b.drop i).take n → tooLong f = false → i ≤ i + n ∧ i + n ≤ b.length ∧ wFld f ⟨b.take i, false⟩ = ⟨b.take (i + n), false⟩ := by
    intro n f hn he ht
    rw [List.length_drop] at hn
    refine ⟨Nat.le_add_right _ _, by omega, ?_⟩
    rw [wFld_put rfl ht, he]
    unfold wPut
    rw [if_neg]
    · simp only [List.take_add]
    · rintro (h | h)
      · cases h
      · simp only [List.length_take, List.length_drop] at h; omega
  have hnum : ∀ {v n : Nat}, numOf (b.drop i) = (v, n, 0) → n ≤ (b.drop i).length ∧ enc v = (b.drop i).take n := by
    intro v n hv
    have h1 := numOf_one (b := b.drop i) (by rw [hv])
    have h2 := (numOf_bd (b.drop i)).2.1
    rw [hv] at h1 h2
    exact ⟨h2, h1.2.symm⟩
  cases k
  · -- int
    have h' : (Fv.int (unz (numStep b i 0).1), (numStep b i 0).2) = (f, j, 0) := h
    have hs : numStep b i 0 = ((numOf (b.drop i)).1, i + (numOf (b.drop i)).2.1, (numOf (b.drop i)).2.2) := if_pos rfl
    rw [hs] at h'
    simp only [Prod.mk.injEq] at h'
    obtain ⟨rfl, rfl, h3⟩ := h'
    obtain ⟨q1, q2⟩ := hnum (v := (numOf (b.drop i)).1) (n := (numOf (b.drop i)).2.1) (by rw [← h3])
    refine key _ _ q1 ?_ rfl
    show encInt _ = _
    rw [encInt_eq, zig_unz, q2]
  · -- flag
    have h' : (Fv.flag (flagStep b i 0).1, (flagStep b i 0).2) = (f, j, 0) := h
    have hs : flagStep b i 0 = ((flagOf (b.drop i)).1, i + (flagOf (b.drop i)).2.1, (flagOf (b.drop i)).2.2) := if_pos rfl
    rw [hs] at h'
    simp only [Prod.mk.injEq] at h'
    obtain ⟨rfl, rfl, h3⟩ := h'
    have hbd := (flagOf_bd (b.drop i)).1
    refine key _ _ hbd ?_ rfl
    generalize b.drop i = l at h3 ⊢
    cases l with
    | nil => cases h3
    | cons x l =>
      by_cases hx : 1 < x.toNat
      · simp [flagOf, hx] at h3
      · simp only [flagOf, hx, if_false]
        simp only [encF]
        by_cases h1 : x.toNat = 1
        · have : x = 1 := UInt8.toNat_inj.1 h1
          subst this; rfl
        · have : x = 0 := UInt8.toNat_inj.1 (by show x.toNat = 0; omega)
          subst this; rfl
  · -- text
    have h' : (Fv.text (textStep b 65535 i 0).1, (textStep b 65535 i 0).2) = (f, j, 0) := h
    have hs : textStep b 65535 i 0 = ((textOf (b.drop i) 65535).1, i + (textOf (b.drop i) 65535).2.1, (textOf (b.drop i) 65535).2.2) := if_pos rfl
    rw [hs] at h'
    simp only [Prod.mk.injEq] at h'
    obtain ⟨rfl, rfl, h3⟩ := h'
    exact key _ _ (textOf_bd _ _).1 (textOf_one h3).symm (text_short h3)
  · -- bytes
    have h' : (Fv.bytes (textStep b 65535 i 0).1, (textStep b 65535 i 0).2) = (f, j, 0) := h
    have hs : textStep b 65535 i 0 = ((textOf (b.drop i) 65535).1, i + (textOf (b.drop i) 65535).2.1, (textOf (b.drop i) 65535).2.2) := if_pos rfl
    rw [hs] at h'
    simp only [Prod.mk.injEq] at h'
    obtain ⟨rfl, rfl, h3⟩ := h'
    exact key _ _ (textOf_bd _ _).1 (textOf_one h3).symm (text_short h3)
  · -- word
    have h' : (Fv.word (wordStep b i 0).1, (wordStep b i 0).2) = (f, j, 0) := h
    have hs : numStep b i 0 = ((numOf (b.drop i)).1, i + (numOf (b.drop i)).2.1, (numOf (b.drop i)).2.2) := if_pos rfl
    unfold wordStep at h'
    rw [hs] at h'
    split at h'
    · simp only [Prod.mk.injEq] at h'
      exact absurd h'.2.2 (by decide)
    · simp only [Prod.mk.injEq] at h'
      obtain ⟨rfl, rfl, h3⟩ := h'
      obtain ⟨q1, q2⟩ := hnum (v := (numOf (b.drop i)).1) (n := (numOf (b.drop i)).2.1) (by rw [← h3])
      exact key _ _ q1 q2 rfl
  · -- count
    have h' : (Fv.count (countStep b 1024 i 0).1, (countStep b 1024 i 0).2) = (f, j, 0) := h
    have hs : countStep b 1024 i 0 = ((countedOf (b.drop i) 1024).1, i + (countedOf (b.drop i) 1024).2.1, (countedOf (b.drop i) 1024).2.2) := if_pos rfl
    rw [hs] at h'
    simp only [Prod.mk.injEq] at h'
    obtain ⟨rfl, rfl, h3⟩ := h'
    obtain ⟨c1, c2, c3, c4⟩ := (countedOf_bd (b.drop i) 1024).2.2.2.2.2 h3
    obtain ⟨q1, q2⟩ := hnum (v := (numOf (b.drop i)).1) (n := (numOf (b.drop i)).2.1) (by rw [← c1])
    rw [c2, c3]
    refine key _ _ q1 q2 ?_
    show decide (1024 < (numOf (b.drop i)).1) = false
    rw [decide_eq_false]
    have : ((numOf (b.drop i)).1 : Int) ≤ max 1024 0 := c4
    omega
/-- A thing has one form. -/
def Th.One (A : Th) : Prop := ∀ (b : List UInt8) (i j : Nat) (x : A.X), i ≤ b.length → b.length ≤ 65536 → A.rd b i 0 = (x, j, 0) → i ≤ j ∧ j ≤ b.length ∧ wAll (A.fl x) ⟨b.take i, false⟩ = ⟨b.take j, false⟩
theorem one_flat_go : ∀ (ks : List Kd) (b : List UInt8) (i j : Nat) (x : List Fv), i ≤ b.length → b.length ≤ 65536 → rdAll ks b i 0 = (x, j, 0) → i ≤ j ∧ j ≤ b.length ∧ wAll x ⟨b.take i, false⟩ = ⟨b.take j, false⟩
  | [], b, i, j, x, hi, hb, h => by
    simp only [rdAll, Prod.mk.injEq] at h
    obtain ⟨rfl, rfl, _⟩ := h
    exact ⟨Nat.le_refl _, hi, rfl⟩
  | k :: ks, b, i, j, x, hi, hb, h => by
    obtain ⟨⟨f, i1, e1⟩, h1⟩ : ∃ s, rdF k b i 0 = s := ⟨_, rfl⟩
    have h' : ((rdF k b i 0).1 :: (rdAll ks b (rdF k b i 0).2.1 (rdF k b i 0).2.2).1, (rdAll ks b (rdF k b i 0).2.1 (rdF k b i 0).2.2).2) = (x, j, 0) := h
    rw [h1] at h'
    simp only [Prod.mk.injEq] at h'
    obtain ⟨rfl, h2⟩ := h'
    have he1 : e1 = 0 := by
      apply Classical.byContradiction
      intro hne
      rw [rdAll_bad ks hne] at h2
      simp only [Prod.mk.injEq] at h2
      exact hne h2.2
    subst he1
    obtain ⟨q1, q2, q3⟩ := fld_one hi hb h1
    obtain ⟨r1, r2, r3⟩ := one_flat_go ks b i1 j _ q2 hb (Prod.ext rfl h2)
    exact ⟨by omega, r2, by show wAll _ (wFld _ _) = _; rw [q3]; exact r3⟩
theorem one_flat (ks : List Kd) : (Th.flat ks).One := fun b i j x hi hb h => one_flat_go ks b i j x hi hb h
theorem one_pair {A B : Th} (hA : A.One) (hB : B.One) : (Th.pair A B).One := by
  intro b i j x hi hb h
  obtain ⟨⟨a, i1, e1⟩, h1⟩ : ∃ s, A.rd b i 0 = s := ⟨_, rfl⟩
  have h' : (((A.rd b i 0).1, (B.rd b (A.rd b i 0).2.1 (A.rd b i 0).2.2).1), (B.rd b (A.rd b i 0).2.1 (A.rd b i 0).2.2).2) = (x, j, 0) := h
  rw [h1] at h'
  simp only [Prod.mk.injEq] at h'
  obtain ⟨rfl, h2⟩ := h'
  have he1 : e1 = 0 := by
    apply Classical.byContradiction
    intro hne
    rw [B.bad hne] at h2
    simp only [Prod.mk.injEq] at h2
    exact hne h2.2
  subst he1
  obtain ⟨q1, q2, q3⟩ := hA b i i1 a hi hb h1
  obtain ⟨r1, r2, r3⟩ := hB b i1 j _ q2 hb (Prod.ext rfl h2)
  refine ⟨by omega, r2, ?_⟩
  show wAll (A.fl a ++ B.fl _) _ = _
  rw [wAll_append, q3]
  exact r3
theorem one_rdN {A : Th} (hA : A.One) (b : List UInt8) (hb : b.length ≤ 65536) : ∀ (n i j : Nat) (xs : List A.X), i ≤ b.length → rdN A b n i 0 = (xs, j, 0) → xs.length = n ∧ i ≤ j ∧ j ≤ b.length ∧ wAll (xs.flatMap A.fl) ⟨b.take i, false⟩ = ⟨b.take j, false⟩
  | 0, i, j, xs, hi, h => by
    simp only [rdN, Prod.mk.injEq] at h
    obtain ⟨rfl, rfl, _⟩ := h
    exact ⟨rfl, Nat.le_refl _, hi, rfl⟩
  | n + 1, i, j, xs, hi, h => by
    obtain ⟨⟨a, i1, e1⟩, h1⟩ : ∃ s, A.rd b i 0 = s := ⟨_, rfl⟩
    unfold rdN at h
    rw [if_pos rfl, h1] at h
    simp only [Prod.mk.injEq] at h
    obtain ⟨rfl, h2⟩ := h
    have he1 : e1 = 0 := by
      apply Classical.byContradiction
      intro hne
      rw [rdN_bad A b n hne] at h2
      simp only [Prod.mk.injEq] at h2
      exact hne h2.2
    subst he1
    obtain ⟨q1, q2, q3⟩ := hA b i i1 a hi hb h1
    obtain ⟨r0, r1, r2, r3⟩ := one_rdN hA b hb n i1 j _ q2 (Prod.ext rfl h2)
    refine ⟨by simp [r0], by omega, r2, ?_⟩
    rw [List.flatMap_cons, wAll_append, q3]
    exact r3
theorem one_many {A : Th} {tw : Bool} (hA : A.One) : (Th.many A tw).One := by
  intro b i j x hi hb h
  obtain ⟨⟨n, i1, e1⟩, h1⟩ : ∃ s, countStep b 1024 i 0 = s := ⟨_, rfl⟩
  have h' : rdN A b (countStep b 1024 i 0).1 (countStep b 1024 i 0).2.1 (countStep b 1024 i 0).2.2 = (x, j, 0) := h
  rw [h1] at h'
  simp only at h'
  have he1 : e1 = 0 := by
    apply Classical.byContradiction
    intro hne
    rw [rdN_bad A b n hne] at h'
    simp only [Prod.mk.injEq] at h'
    exact hne h'.2.2
  subst he1
  have hf : rdF .count b i 0 = (.count n, i1, 0) := by show (Fv.count (countStep b 1024 i 0).1, (countStep b 1024 i 0).2) = _; rw [h1]
  obtain ⟨q1, q2, q3⟩ := fld_one hi hb hf
  obtain ⟨r0, r1, r2, r3⟩ := one_rdN hA b hb n i1 j x q2 h'
  refine ⟨by omega, r2, ?_⟩
  show wAll (x.flatMap A.fl) (wFld (.count x.length) _) = _
  rw [r0, q3]
  exact r3
theorem one_got {A : Th} (hA : A.One) {b : List UInt8} (h : errR A b = 0) : wAll (A.fl (gotR A b)) W0 = ⟨b, false⟩ := by
  obtain ⟨h1, h2, h3, h4⟩ := gotR_ok h
  rw [h1]
  obtain ⟨⟨x, j, e⟩, hx⟩ : ∃ s, A.rd b 0 0 = s := ⟨_, rfl⟩
  rw [hx] at h3 h4 ⊢
  simp only at h3 h4 ⊢
  subst h3
  obtain ⟨q1, q2, q3⟩ := hA b 0 j x (Nat.zero_le _) (by omega) hx
  have : j = b.length := by omega
  subst this
  rw [List.take_length] at q3
  exact q3
end Go.Proofs.Ytoeobicpdeklaaa
