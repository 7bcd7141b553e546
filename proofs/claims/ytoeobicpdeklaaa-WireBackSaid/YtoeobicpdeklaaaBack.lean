/-
  What is written reads back; a byte more or a byte less does not.
-/
import Derived.Test.YtoeobicpdeklaaaOne
namespace Go.Proofs.Ytoeobicpdeklaaa
open Go Go.RowKit
theorem textOf_enc2 (s t : List UInt8) (hs : s.length ≤ 65535) : textOf (encText s ++ t) 65535 = (s, (encText s).length, 0) := by
  have h1 : numOf (encText s ++ t) = (s.length, (enc s.length).length, 0) := by
    rw [encText_eq, List.append_assoc]; exact numOf_enc _ _ (by omega)
  have h2 : countedOf (encText s ++ t) 65535 = (s.length, (enc s.length).length, 0) := by
    rw [countedOf_t (by rw [h1]) (by rw [h1]; simp only; omega), h1]
  unfold textOf
  rw [h2]
  simp only [ne_eq, not_true, if_false]
  rw [if_neg (by rw [encText_eq]; simp), encText_eq, List.append_assoc, List.drop_left, List.take_left, List.length_append]
theorem fld_back {f : Fv} {b t : List UInt8} {i : Nat} (hf : FOk f) (h2 : tooLong f = false) (h : b.drop i = encF f ++ t) : rdF f.kd b i 0 = (f, i + (encF f).length, 0) := by
  cases f with
  | int n =>
    show (Fv.int (unz (numStep b i 0).1), (numStep b i 0).2) = _
    have hs : numStep b i 0 = (zig n, i + (enc (zig n)).length, 0) := by
      unfold numStep
      rw [if_pos rfl, h]
      simp only [encF]
      rw [encInt_eq, numOf_enc _ _ (zig_lt n hf.1 hf.2)]
    rw [hs]
    simp only [unz_zig, encF]
    rw [encInt_eq]
  | flag v =>
    show (Fv.flag (flagStep b i 0).1, (flagStep b i 0).2) = _
    have hs : flagStep b i 0 = (v, i + 1, 0) := by
      unfold flagStep
      rw [if_pos rfl, h]
      cases v <;> rfl
    rw [hs]
    rfl
  | text s =>
    show (Fv.text (textStep b 65535 i 0).1, (textStep b 65535 i 0).2) = _
    have hl : s.length ≤ 65535 := by have := of_decide_eq_false h2; omega
    have hs : textStep b 65535 i 0 = (s, i + (encText s).length, 0) := by
      unfold textStep
      rw [if_pos rfl, h]
      simp only [encF]
      rw [textOf_enc2 s t hl]
    rw [hs]
    rfl
  | bytes s =>
    show (Fv.bytes (textStep b 65535 i 0).1, (textStep b 65535 i 0).2) = _
    have hl : s.length ≤ 65535 := by have := of_decide_eq_false h2; omega
    have hs : textStep b 65535 i 0 = (s, i + (encText s).length, 0) := by
      unfold textStep
      rw [if_pos rfl, h]
      simp only [encF]
      rw [textOf_enc2 s t hl]
    rw [hs]
    rfl
  | word n =>
    show (Fv.word (wordStep b i 0).1, (wordStep b i 0).2) = _
    have hn : n < 4294967296 := hf
    have hs : numStep b i 0 = (n, i + (enc n).length, 0) := by
      unfold numStep
      rw [if_pos rfl, h]
      simp only [encF]
      rw [numOf_enc _ _ (by omega)]
    unfold wordStep
    rw [hs, if_neg (by simp only; omega)]
    rfl
  | count n =>
    show (Fv.count (countStep b 1024 i 0).1, (countStep b 1024 i 0).2) = _
    have hl : n ≤ 1024 := by have := of_decide_eq_false h2; omega
    have h1 : numOf (b.drop i) = (n, (enc n).length, 0) := by
      rw [h]
      simp only [encF]
      rw [numOf_enc _ _ (by omega)]
    rw [countStep_t (by rw [h1]) (by rw [h1]; simp only; omega), h1]
    rfl
theorem wFld_pre (f : Fv) (st : WS) : st.out <+: (wFld f st).out := by
  unfold wFld
  split
  · exact List.prefix_refl _
  · split
    · exact List.prefix_refl _
    · unfold wPut
      split
      · exact List.prefix_refl _
      · exact List.prefix_append _ _
theorem wAll_pre : ∀ (fs : List Fv) (st : WS), st.out <+: (wAll fs st).out
  | [], _ => List.prefix_refl _
  | f :: fs, st => (wFld_pre f st).trans (wAll_pre fs (wFld f st))
theorem wAll_first {a c : List Fv} {st : WS} (h : (wAll (a ++ c) st).long = false) : (wAll a st).long = false := by
  rw [wAll_append] at h
  cases hl : (wAll a st).long with
  | false => rfl
  | true => rw [wAll_long hl, hl] at h; cases h
theorem wFld_fits {f : Fv} {st : WS} (h0 : st.long = false) (h : (wFld f st).long = false) : tooLong f = false ∧ wFld f st = ⟨st.out ++ encF f, false⟩ := by
  cases ht : tooLong f with
  | true => rw [wFld_too h0 ht] at h; cases h
  | false =>
    refine ⟨rfl, ?_⟩
    rw [wFld_put h0 ht] at h ⊢
    unfold wPut at h ⊢
    split at h
    · cases h
    · rename_i hn
      rw [if_neg hn, h0]
theorem drop_pre {a c b : List UInt8} (h : a ++ c <+: b) : ∃ t, b.drop a.length = c ++ t := by
  obtain ⟨t, rfl⟩ := h
  exact ⟨t, by rw [List.append_assoc, List.drop_left]⟩
/-- A thing that fits reads back, whatever stands behind it. -/
def Th.Back (A : Th) : Prop := ∀ (w : World) (ok : Nat → Prop) (x : A.X) (vs : List Value), A.M w ok x vs → ∀ (st : WS) (b : List UInt8), st.long = false → (wAll (A.fl x) st).long = false → (wAll (A.fl x) st).out <+: b →
  A.rd b st.out.length 0 = (x, (wAll (A.fl x) st).out.length, 0)
theorem back_go : ∀ (x : List Fv), (∀ f ∈ x, FOk f) → ∀ (st : WS) (b : List UInt8), st.long = false → (wAll x st).long = false → (wAll x st).out <+: b → rdAll (x.map Fv.kd) b st.out.length 0 = (x, (wAll x st).out.length, 0)
  | [], _, _, _, _, _, _ => rfl
  | f :: fs, hok, st, b, h0, hl, hp => by
    have hl1 : (wFld f st).long = false := wAll_first (a := [f]) (c := fs) hl
    obtain ⟨h2, h3⟩ := wFld_fits h0 hl1
    have hp1 : st.out ++ encF f <+: b := by
      have := (wAll_pre fs (wFld f st)).trans hp
      rw [h3] at this
      exact this
    obtain ⟨t, ht⟩ := drop_pre hp1
    have hr := fld_back (hok f (List.mem_cons_self ..)) h2 ht
    have hs : wAll (f :: fs) st = wAll fs (wFld f st) := rfl
    have ih := back_go fs (fun g hg => hok g (List.mem_cons_of_mem _ hg)) (wFld f st) b hl1 (by rw [← hs]; exact hl) (by rw [← hs]; exact hp)
    have hlen : (wFld f st).out.length = st.out.length + (encF f).length := by rw [h3]; simp
    rw [hlen] at ih
    rw [hs]
    show ((rdF f.kd b st.out.length 0).1 :: (rdAll (fs.map Fv.kd) b (rdF f.kd b st.out.length 0).2.1 (rdF f.kd b st.out.length 0).2.2).1, (rdAll (fs.map Fv.kd) b (rdF f.kd b st.out.length 0).2.1 (rdF f.kd b st.out.length 0).2.2).2) = _
    rw [hr]
    simp only
    rw [ih]
theorem back_flat (ks : List Kd) : (Th.flat ks).Back := fun w ok x vs hM st b h0 hl hp => by
  have h1 := back_go x hM.2.fok st b h0 hl hp
  rw [hM.1] at h1
  exact h1
theorem back_pair {A B : Th} (hA : A.Back) (hB : B.Back) : (Th.pair A B).Back := fun w ok x vs hM st b h0 hl hp => by
  have hs : wAll ((Th.pair A B).fl x) st = wAll (B.fl x.2) (wAll (A.fl x.1) st) := wAll_append _ _ _
  have hl1 : (wAll (A.fl x.1) st).long = false := wAll_first (c := B.fl x.2) hl
  rw [hs] at hl hp ⊢
  have h1 := hA w ok x.1 _ hM.1 st b h0 hl1 ((wAll_pre _ _).trans hp)
  have h2 := hB w ok x.2 _ hM.2.1 (wAll (A.fl x.1) st) b hl1 hl hp
  show (((A.rd b st.out.length 0).1, (B.rd b (A.rd b st.out.length 0).2.1 (A.rd b st.out.length 0).2.2).1), (B.rd b (A.rd b st.out.length 0).2.1 (A.rd b st.out.length 0).2.2).2) = _
  rw [h1]
  simp only
  rw [h2]
theorem back_rdN {A : Th} (hA : A.Back) (w : World) (ok : Nat → Prop) : ∀ (xs : List A.X), (∀ x ∈ xs, ∃ vs, A.M w ok x vs) → ∀ (st : WS) (b : List UInt8), st.long = false → (wAll (xs.flatMap A.fl) st).long = false → (wAll (xs.flatMap A.fl) st).out <+: b →
    rdN A b xs.length st.out.length 0 = (xs, (wAll (xs.flatMap A.fl) st).out.length, 0)
  | [], _, _, _, _, _, _ => rfl
  | x :: xs, hx, st, b, h0, hl, hp => by
    have hs : wAll ((x :: xs).flatMap A.fl) st = wAll (xs.flatMap A.fl) (wAll (A.fl x) st) := by rw [List.flatMap_cons, wAll_append]
    have hl1 : (wAll (A.fl x) st).long = false := by
      rw [List.flatMap_cons] at hl
      exact wAll_first hl
    rw [hs] at hl hp ⊢
    obtain ⟨vs, hM⟩ := hx x (List.mem_cons_self ..)
    have h1 := hA w ok x vs hM st b h0 hl1 ((wAll_pre _ _).trans hp)
    have ih := back_rdN hA w ok xs (fun y hy => hx y (List.mem_cons_of_mem _ hy)) (wAll (A.fl x) st) b hl1 hl hp
    show rdN A b (xs.length + 1) st.out.length 0 = _
    unfold rdN
    rw [h1]
    simp only [if_pos]
    rw [ih]
theorem back_many {A : Th} {tw : Bool} (hA : A.Back) : (Th.many A tw).Back := fun w ok x vs hM st b h0 hl hp => by
  obtain ⟨B, c, cells, rfl, _, _, _, _, hel⟩ := hM
  have hs : wAll ((Th.many A tw).fl x) st = wAll (x.flatMap A.fl) (wFld (.count x.length) st) := rfl
  have hl1 : (wFld (.count x.length) st).long = false := wAll_first (a := [.count x.length]) (c := x.flatMap A.fl) hl
  obtain ⟨h2, h3⟩ := wFld_fits h0 hl1
  rw [hs] at hl hp ⊢
  have hp1 : st.out ++ encF (.count x.length) <+: b := by
    have := (wAll_pre (x.flatMap A.fl) (wFld (.count x.length) st)).trans hp
    rw [h3] at this
    exact this
  obtain ⟨t, ht⟩ := drop_pre hp1
  have hr := fld_back (f := .count x.length) trivial h2 ht
  have hr2 : countStep b 1024 st.out.length 0 = (x.length, st.out.length + (encF (.count x.length)).length, 0) := by
    have hr' : (Fv.count (countStep b 1024 st.out.length 0).1, (countStep b 1024 st.out.length 0).2) = (Fv.count x.length, st.out.length + (encF (.count x.length)).length, 0) := hr
    simp only [Prod.mk.injEq, Fv.count.injEq] at hr'
    exact Prod.ext hr'.1 hr'.2
  have hlen : (wFld (.count x.length) st).out.length = st.out.length + (encF (.count x.length)).length := by rw [h3]; simp
  have ih := back_rdN hA w ok x (fun y hy => by
    obtain ⟨i, hi, rfl⟩ := List.getElem_of_mem hy
    exact ⟨_, hel i hi⟩) (wFld (.count x.length) st) b hl1 hl hp
  rw [hlen] at ih
  show rdN A b (countStep b 1024 st.out.length 0).1 (countStep b 1024 st.out.length 0).2.1 (countStep b 1024 st.out.length 0).2.2 = _
  rw [hr2]
  exact ih
section
variable {A : Th} {w : World} {ok : Nat → Prop} {x : A.X} {vs : List Value}
theorem back_rd (hA : A.Back) (hM : A.M w ok x vs) (h : errOf (wAll (A.fl x) W0) = 0) {b : List UInt8} (hp : outOf (wAll (A.fl x) W0) <+: b) : A.rd b 0 0 = (x, (outOf (wAll (A.fl x) W0)).length, 0) := by
  have hl : (wAll (A.fl x) W0).long = false := by
    cases hl : (wAll (A.fl x) W0).long with
    | false => rfl
    | true => rw [(errOf_long hl).2] at h; cases h
  rw [(errOf_ok hl).1] at hp ⊢
  exact hA w ok x vs hM W0 b rfl hl hp
theorem out_bd (st : List Fv) : (outOf (wAll st W0)).length ≤ 65536 := by
  have h := wAll_bd (fs := st) (st := W0) (Nat.zero_le _)
  unfold outOf
  split
  · exact Nat.zero_le _
  · exact h
theorem back_ok (hA : A.Back) (hM : A.M w ok x vs) (h : errOf (wAll (A.fl x) W0) = 0) : errR A (outOf (wAll (A.fl x) W0)) = 0 ∧ gotR A (outOf (wAll (A.fl x) W0)) = x := by
  have hr := back_rd hA hM h (List.prefix_refl _)
  have he : errR A (outOf (wAll (A.fl x) W0)) = 0 := by
    rw [errR_eq (out_bd _) hr, if_neg (by omega)]
  exact ⟨he, by rw [(gotR_ok he).1, hr]⟩
theorem back_more (hA : A.Back) (hM : A.M w ok x vs) (h : errOf (wAll (A.fl x) W0) = 0) (c : UInt8) : errR A (outOf (wAll (A.fl x) W0) ++ [c]) = 24 ∨ errR A (outOf (wAll (A.fl x) W0) ++ [c]) = 22 := by
  rcases Nat.lt_or_ge 65536 (outOf (wAll (A.fl x) W0) ++ [c]).length with hl | hl
  · exact .inr (errR_long hl)
  · left
    rw [errR_eq hl (back_rd hA hM h (List.prefix_append _ _)), if_pos ⟨rfl, by simp⟩]
end
theorem fld_ok {k : Kd} {b : List UInt8} {i j : Nat} {f : Fv} (h : rdF k b i 0 = (f, j, 0)) : FOk f := by
  cases k
  · have h' : (Fv.int (unz (numStep b i 0).1), (numStep b i 0).2) = (f, j, 0) := h
    simp only [Prod.mk.injEq] at h'
    rw [← h'.1]
    exact unz_ok (numStep_lt b i 0)
  · have h' : (Fv.flag (flagStep b i 0).1, (flagStep b i 0).2) = (f, j, 0) := h
    simp only [Prod.mk.injEq] at h'
    rw [← h'.1]; trivial
  · have h' : (Fv.text (textStep b 65535 i 0).1, (textStep b 65535 i 0).2) = (f, j, 0) := h
    simp only [Prod.mk.injEq] at h'
    rw [← h'.1]; trivial
  · have h' : (Fv.bytes (textStep b 65535 i 0).1, (textStep b 65535 i 0).2) = (f, j, 0) := h
    simp only [Prod.mk.injEq] at h'
    rw [← h'.1]; trivial
  · have h' : (Fv.word (wordStep b i 0).1, (wordStep b i 0).2) = (f, j, 0) := h
    simp only [Prod.mk.injEq] at h'
    rw [← h'.1]
    show (wordStep b i 0).1 < 4294967296
    unfold wordStep
    split
    · show (0 : Nat) < 4294967296
      decide
    · omega
  · have h' : (Fv.count (countStep b 1024 i 0).1, (countStep b 1024 i 0).2) = (f, j, 0) := h
    simp only [Prod.mk.injEq] at h'
    rw [← h'.1]; trivial
theorem all_ok : ∀ (ks : List Kd) {b : List UInt8} {i j : Nat} {x : List Fv}, rdAll ks b i 0 = (x, j, 0) → ∀ f ∈ x, FOk f
  | [], b, i, j, x, h, f, hf => by
    simp only [rdAll, Prod.mk.injEq] at h
    rw [← h.1] at hf; cases hf
  | k :: ks, b, i, j, x, h, f, hf => by
    obtain ⟨⟨f1, i1, e1⟩, h1⟩ : ∃ s, rdF k b i 0 = s := ⟨_, rfl⟩
    have h' : ((rdF k b i 0).1 :: (rdAll ks b (rdF k b i 0).2.1 (rdF k b i 0).2.2).1, (rdAll ks b (rdF k b i 0).2.1 (rdF k b i 0).2.2).2) = (x, j, 0) := h
    rw [h1] at h'
    simp only [Prod.mk.injEq] at h'
    obtain ⟨rfl, h2⟩ := h'
    have he : e1 = 0 := by
      apply Classical.byContradiction
      intro hne
      rw [rdAll_bad ks hne] at h2
      simp only [Prod.mk.injEq] at h2
      exact hne h2.2
    subst he
    rcases List.mem_cons.1 hf with rfl | hf
    · exact fld_ok h1
    · exact all_ok ks (b := b) (i := i1) (j := j) (x := (rdAll ks b i1 0).1) (by rw [← h2]) f hf
/-- A byte less is refused. -/
theorem back_less {ks : List Kd} {w : World} {ok : Nat → Prop} {x : List Fv} {vs : List Value} (hM : (Th.flat (.int :: ks)).M w ok x vs) (h : errOf (wAll x W0) = 0) {m : Nat} (hm : m ≤ (outOf (wAll x W0)).length) (h0 : 0 < (outOf (wAll x W0)).length → m < (outOf (wAll x W0)).length) : errR (Th.flat (.int :: ks)) ((outOf (wAll x W0)).take m) ≠ 0 := by
  intro he
  have hr := back_rd (A := Th.flat (.int :: ks)) (back_flat _) hM h (List.prefix_refl _)
  have hbd := out_bd x
  obtain ⟨o, ho⟩ : ∃ o, outOf (wAll x W0) = o := ⟨_, rfl⟩
  have hr' : (Th.flat (.int :: ks)).rd o 0 0 = (x, o.length, 0) := by rw [← ho]; exact hr
  rw [ho] at hm h0 he hbd
  have hlt : (o.take m).length = m := by rw [List.length_take]; omega
  obtain ⟨_, _, he2, he3⟩ := gotR_ok he
  have hle := (Th.flat (.int :: ks)).le (b := o.take m) (i := 0) (e := 0) (Nat.zero_le _)
  obtain ⟨⟨y, j, e⟩, hy⟩ : ∃ s, (Th.flat (.int :: ks)).rd (o.take m) 0 0 = s := ⟨_, rfl⟩
  rw [hy] at he2 he3 hle
  simp only at he2 he3 hle
  subst he2
  have hj : j = m := by omega
  subst hj
  have hy' : rdAll (.int :: ks) (o.take j) 0 0 = (y, j, 0) := hy
  have hone := (one_flat_go (.int :: ks) (o.take j) 0 j y (Nat.zero_le _) (by omega) hy').2.2
  have hw : wAll y W0 = ⟨o.take j, false⟩ := by
    have h3 : (o.take j).take j = o.take j := by rw [List.take_take, Nat.min_self]
    rw [h3] at hone
    exact hone
  have hkd := rdAll_kd (.int :: ks) (o.take j) 0 0
  rw [hy'] at hkd
  have hback := back_go y (all_ok _ hy') W0 o rfl (by rw [hw]) (by rw [hw]; exact List.take_prefix _ _)
  rw [hkd, hw] at hback
  have hlen : j = o.length := by
    have hq : ((y, (o.take j).length, 0) : List Fv × Nat × Nat) = (x, o.length, 0) := hback.symm.trans hr'
    simp only [Prod.mk.injEq] at hq
    omega
  rcases Nat.eq_zero_or_pos o.length with hz | hz
  · have hnil : o = [] := List.length_eq_zero_iff.1 hz
    subst hnil
    have h1 : (rdAll (.int :: ks) [] 0 0).2 = (0, 20) := by
      show (rdAll ks [] (rdF .int [] 0 0).2.1 (rdF .int [] 0 0).2.2).2 = _
      rw [show (rdF .int [] 0 0).2 = (0, 20) from by simp [rdF, numStep, numOf, numGo]]
      exact rdAll_bad ks (by decide)
    have h2 : (rdAll (.int :: ks) [] 0 0).2 = (0, 0) := by
      have : rdAll (.int :: ks) [] 0 0 = (x, 0, 0) := hr'
      rw [this]
    rw [h1] at h2
    cases h2
  · have := h0 hz
    omega
end Go.Proofs.Ytoeobicpdeklaaa
