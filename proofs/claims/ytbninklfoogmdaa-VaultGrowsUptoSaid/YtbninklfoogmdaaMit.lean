/-
  Regions in which two operations may come in either order: a schedule that branches.
-/
import Derived.Test.YtbninklfoogmdaaMid
namespace Go.Proofs.Ytbninklfoogmdaa
open Go Go.RowKit
inductive Sch
  | nil
  | p (i : Nat) (s : Sch)
  | o (i : Nat) (s : Sch)
  | two (i : Nat) (s : Sch) (j : Nat) (t : Sch)
def Sch.size : Sch → Nat
  | .nil => 0
  | .p _ s => s.size + 1
  | .o _ s => s.size + 1
  | .two _ s _ _ => s.size + 1
def Sch.isNil : Sch → Bool
  | .nil => true
  | _ => false
theorem Sch.nil_of {s : Sch} (h : s.isNil = true) : s = .nil := by cases s <;> first | rfl | cases h
section mix
variable {P : Program} {ds : List Deferred} {all : List Oper} {S : World → Prop} {K : List Value → World → Prop} {l : List Value} {w : World} {o : Oper} {i : Nat}
def MixT (P : Program) (ds : List Deferred) (all : List Oper) (S : World → Prop) (K : List Value → World → Prop) : Sch → List Value → World → Prop
  | .nil, l, w => K l w
  | .p i s, l, w => ∃ o, all[i]? = some o ∧ Mix1 P all S (MixT P ds all S K s) o l w
  | .o i s, l, w => ∃ o, all[i]? = some o ∧ Ops P ds all (fun l' w' => (s ≠ .nil → S w') ∧ MixT P ds all S K s l' w') (fun _ _ _ => False) [o] l w
  | .two i s j t, l, w => (∃ o, all[i]? = some o ∧ Ops P ds all (fun l' w' => (s ≠ .nil → S w') ∧ MixT P ds all S K s l' w') (fun _ _ _ => False) [o] l w) ∧
    (∃ o, all[j]? = some o ∧ Ops P ds all (fun l' w' => (t ≠ .nil → S w') ∧ MixT P ds all S K t l' w') (fun _ _ _ => False) [o] l w)
theorem mixt_nil (h : K l w) : MixT P ds all S K .nil l w := h
theorem mixt_p {s : Sch} (ho : all[i]? = some o) (h : Mix1 P all S (MixT P ds all S K s) o l w) : MixT P ds all S K (.p i s) l w := ⟨o, ho, h⟩
theorem mixt_o {s : Sch} (ho : all[i]? = some o) (h : Ops P ds all (fun l' w' => (s ≠ .nil → S w') ∧ MixT P ds all S K s l' w') (fun _ _ _ => False) [o] l w) : MixT P ds all S K (.o i s) l w := ⟨o, ho, h⟩
theorem mixt_two {s t : Sch} {j : Nat} (h1 : MixT P ds all S K (.o i s) l w) (h2 : MixT P ds all S K (.o j t) l w) : MixT P ds all S K (.two i s j t) l w := ⟨h1, h2⟩
def mixTB (ops : Array Oper) (z : Nat) : Sch → Array Bool → Bool
  | .nil, listed => (Region.ready .any ops listed).isEmpty
  | .p i s, listed => decide (i < z) && (Region.ready .any ops listed).contains i && Region.free .any ops listed i && mixTB ops z s (listed.setIfInBounds i true)
  | .o i s, listed => ((decide (i < z) && !s.isNil) || (decide (i = z) && s.isNil)) && decide (Region.ready .any ops listed = [i]) && mixTB ops z s (listed.setIfInBounds i true)
  | .two i s j t, listed => decide (i < z) && decide (j < z) && !s.isNil && !t.isNil && decide (s.size = t.size) && decide (Region.ready .any ops listed = [i, j]) && mixTB ops z s (listed.setIfInBounds i true) && mixTB ops z t (listed.setIfInBounds j true)
theorem mixt_step {z : Nat} {s : Sch} {listed : Array Bool} (hd : s.isNil = false ∨ i = z) (h : ∃ o, all[i]? = some o ∧ Ops P ds all (fun l' w' => (s ≠ .nil → S w') ∧ MixT P ds all S K s l' w') (fun _ _ _ => False) [o] l w)
    (IH : ∀ (l : List Value) (w : World), (s ≠ .nil → S w) → MixT P ds all S K s l w → wpAnyZ P all.toArray (fun e a w' => a.defers = ds ∧ seqQ K (fun _ _ _ => False) e a.tmps.toList w') S z s.size (listed.setIfInBounds i true) ⟨l.toArray, ds⟩ w) :
    wpOp P all.toArray (fun e a w' => a.defers = ds ∧ seqQ K (fun _ _ _ => False) e a.tmps.toList w') i (fun a' w' => (i ≠ z → S w') ∧ wpAnyZ P all.toArray (fun e a w' => a.defers = ds ∧ seqQ K (fun _ _ _ => False) e a.tmps.toList w') S z s.size (listed.setIfInBounds i true) a' w') ⟨l.toArray, ds⟩ w := by
  obtain ⟨o, ho, h⟩ := h
  unfold Ops wpList at h
  unfold wpOp
  rw [List.getElem?_toArray, ho]
  simp only
  have hne : i ≠ z → s ≠ .nil := fun h1 h3 => by
    subst h3
    rcases hd with h2 | h2
    · cases h2
    · exact h1 h2
  have ih : ∀ (a : Act) w', (a.defers = ds ∧ (s ≠ .nil → S w') ∧ MixT P ds all S K s a.tmps.toList w') → ((i ≠ z → S w') ∧ wpAnyZ P all.toArray (fun e a w' => a.defers = ds ∧ seqQ K (fun _ _ _ => False) e a.tmps.toList w') S z s.size (listed.setIfInBounds i true) a w') := by
    rintro ⟨t, d⟩ w' ⟨hd, hS', h2⟩
    simp only at hd
    subst hd
    exact ⟨fun h1 => hS' (hne h1), IH _ _ hS' h2⟩
  have hq : ∀ (e : Exit) (a : Act) w', e ≠ .normal → Exit.then (fun (a : Act) w' => a.defers = ds ∧ (s ≠ .nil → S w') ∧ MixT P ds all S K s a.tmps.toList w') (fun _ a _ => a.defers = ds ∧ False) e a w' → (a.defers = ds ∧ seqQ K (fun _ _ _ => False) e a.tmps.toList w') := by
    intro e a w' he h
    cases e <;> first | exact absurd rfl he | exact h.2.elim
  split
  · rename_i hw
    rw [if_pos hw] at h
    rcases h with h | ⟨h1, a1, w1, h2⟩
    · exact .inl (Oper.wp_mono ih (wp_alt hq h))
    · exact .inr ⟨h1, a1, w1, hq _ _ _ (by simp) h2⟩
  · rename_i hw
    rw [if_neg hw] at h
    exact ih _ _ h
theorem mixt_any {z : Nat} (hsel : Region.noSelect all.toArray = true) (hs : Region.sinkB .any all.toArray z = true) (hz : z + 1 = all.toArray.size) : ∀ (s : Sch) (listed : Array Bool) (l : List Value) (w : World), (s ≠ .nil → HeadInv .any all.toArray z listed) → mixTB all.toArray z s listed = true → (s ≠ .nil → S w) → MixT P ds all S K s l w →
    wpAnyZ P all.toArray (fun e a w' => a.defers = ds ∧ seqQ K (fun _ _ _ => False) e a.tmps.toList w') S z s.size listed ⟨l.toArray, ds⟩ w := by
  intro s
  induction s with
  | nil => intro listed l w _ hB _ h; exact ⟨by simpa [mixTB] using hB, rfl, h⟩
  | o i s IH =>
    intro listed l w inv hB hS h
    simp only [mixTB, Bool.and_eq_true, Bool.or_eq_true, decide_eq_true_eq, Bool.not_eq_true'] at hB
    obtain ⟨⟨hiz, hr⟩, hB'⟩ := hB
    have hready : i ∈ Region.ready .any all.toArray listed := by rw [hr]; simp
    have hlast : s ≠ .nil → i < z := fun h => by
      rcases hiz with h1 | h1
      · exact h1.1
      · exact absurd (Sch.nil_of h1.2) h
    refine ⟨fun h0 => (by rw [hr] at h0; cases h0), fun k hk => ?_⟩
    have hki : k = i := by rw [hr] at hk; simpa using hk
    rw [hki]
    exact mixt_step (by rcases hiz with h1 | h1; exact .inl h1.2; exact .inr h1.1) h fun l w hS' h2 => IH _ _ _ (fun h1 => (inv (by simp)).set hready (hlast h1)) hB' hS' h2
  | two i s j t IH1 IH2 =>
    intro listed l w inv hB hS h
    simp only [mixTB, Bool.and_eq_true, decide_eq_true_eq, Bool.not_eq_true'] at hB
    obtain ⟨⟨⟨⟨⟨⟨⟨hiz, hjz⟩, hsn⟩, htn⟩, hsz⟩, hr⟩, hB1⟩, hB2⟩ := hB
    have hri : i ∈ Region.ready .any all.toArray listed := by rw [hr]; simp
    have hrj : j ∈ Region.ready .any all.toArray listed := by rw [hr]; simp
    refine ⟨fun h0 => (by rw [hr] at h0; cases h0), fun k hk => ?_⟩
    have hk2 : k = i ∨ k = j := by rw [hr] at hk; simpa using hk
    rcases hk2 with rfl | rfl
    · exact mixt_step (.inl hsn) h.1 fun l w hS' h2 => IH1 _ _ _ (fun _ => (inv (by simp)).set hri hiz) hB1 hS' h2
    · rw [hsz]
      exact mixt_step (.inl htn) h.2 fun l w hS' h2 => IH2 _ _ _ (fun _ => (inv (by simp)).set hrj hjz) hB2 hS' h2
  | p i s IH =>
    rintro listed l w inv hB hS ⟨o, ho, v, hv, hK⟩
    simp only [mixTB, Bool.and_eq_true, decide_eq_true_eq] at hB
    obtain ⟨⟨⟨hiz, hr⟩, hf⟩, hB'⟩ := hB
    have hi : all.toArray[i]? = some o := by rw [List.getElem?_toArray]; exact ho
    have hready : i ∈ Region.ready .any all.toArray listed := by simpa using hr
    refine Z_first (oi := o) (v := v) hi (Region.noSelect_spec hsel) (fun _ _ _ h => h.2.elim) hs hz hiz s.size listed _ w (inv (by simp)) (Region.free_spec hi hf) hready ?_ (hS (by simp)) ?_
    · rcases hv with ⟨h1, h2⟩ | ⟨h1, h2⟩
      · exact .inl ⟨h1, by rw [rho_eq]; exact h2⟩
      · exact .inr ⟨h1, h2⟩
    · rw [put_putL]
      exact IH _ _ _ (fun _ => (inv (by simp)).set hready hiz) hB' (fun _ => hS (by simp)) hK
theorem run_mixT {Q : Post} {cs : List Code} {n : Nat} {w0 : World} {SS : List Nat} {es : List Ent} (z : Nat) (s : Sch) (H : Hp w0 w SS es) (idx : List Nat) (hm : P.follows .mixedOrders = true) (hnd : idx.Nodup)
    (hB : (Region.noSelect all.toArray && decide (s.size = all.length) && decide (z + 1 = all.length) && Region.sinkB .any all.toArray z && mixTB all.toArray z s (Array.replicate all.length false)) = true)
    (h : ∀ w', w' = { w with drawn := w.drawn + 1 } → MixT P ds all (fun wz => Hp w0 wz SS (idx.map fun i => es.getD i (none, 0, []))) (Run P ds cs Q) s l w') : Run P ds (.region n all.toArray true :: cs) Q l w := by
  simp only [Bool.and_eq_true, decide_eq_true_eq] at hB
  obtain ⟨⟨⟨⟨hsel, hlen⟩, hz⟩, hs⟩, hB⟩ := hB
  show Cd P ds _ _ l w
  unfold Cd
  have inv0 : HeadInv .any all.toArray z (Array.replicate all.toArray.size false) :=
    ⟨by simp, fun j oj _ hl => (by rw [getD_replicate_false] at hl; cases hl), fun t _ ht => getD_in (by simpa using ht) (getD_replicate_false _ _)⟩
  refine Go.wp_mono (Q := fun e a w' => a.defers = ds ∧ seqQ (Run P ds cs Q) (fun _ _ _ => False) e a.tmps.toList w') (wp_region_any hm ?_) ?_
  · have := mixt_any (S := fun wz => Hp w0 wz SS (idx.map fun i => es.getD i (none, 0, []))) (K := Run P ds cs Q) (P := P) (ds := ds) hsel hs (by simpa using hz) s _ l { w with drawn := w.drawn + 1 } (fun _ => by simpa using inv0) hB (fun _ => H.drew.pick idx hnd) (h _ rfl)
    rw [hlen] at this
    have h2 := any_of_Z _ _ _ _ this
    simpa using h2
  · rintro e a w' ⟨hd, h2⟩
    cases e <;> first | exact ⟨hd, h2⟩ | exact h2.elim
end mix
end Go.Proofs.Ytbninklfoogmdaa
