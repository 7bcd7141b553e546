/-
  A call of yield within a region: in one order; behind operations that may be drawn in several orders.
-/
import Derived.Test.YtgkciibfpenjpaaRnf
namespace Go.Proofs.Ytgkciibfpenjpaa
open Go Go.RowKit
section yield
variable {ro : Option Nat} {n : Nat} {P : Program} {l : List Value} {ds : List Deferred} {w : World}
theorem wpIn_yield {ops : Array Oper} {d : Tmp} {y : Operand} {xs : List Operand} {ats : Array TypeId} {ty : TypeId} {pos : String} {af : Array Edge} {L : Nat} {vs : List Value} {R : Value → World → Prop} {RP : Chain → World → Prop} {rest : List Oper} {Q : Exit → Act → World → Prop}
    (hy : ev l y = some (.func (.yield L) #[] #[])) (hx : evs l xs = some vs) (hY : YieldP P L vs.toArray w R RP) (h : ∀ v w', R v w' → wpListIn (FR ro) n P ops Q rest ⟨(l.set d v).toArray, ds⟩ w') (hp : ∀ ch w', RP ch w' → Q (.panic ch) ⟨l.toArray, ds⟩ w') :
    wpListIn (FR ro) n P ops Q (⟨some d, .call { callee := .value y, args := xs.toArray, argTypes := ats }, ty, pos, af, none⟩ :: rest) ⟨l.toArray, ds⟩ w := by
  obtain ⟨fn, tmps, assign, body, h1, h2⟩ := hY
  have he : (execOp (⟨l.toArray, ds⟩ : Act).eval ⟨some d, .call { callee := .value y, args := xs.toArray, argTypes := ats }, ty, pos, af, none⟩).run P w = .ok (.round L fn tmps assign body) w := by
    rw [rho_eq]
    simp [execOp, resolve, Deferred.ofValue, invoke, rhos_of hx, rho_of hy, h1]
  refine wpListIn_plain rfl fun K hK => ⟨fun _ _ => trivial, ?_⟩
  rw [Oper.semAt_eq _ _ _ (fun c hc => (by cases hc)), he]
  refine ⟨fun hd => (by cases hd), trivial, fun c cs _ => ?_⟩
  obtain ⟨e, w', hR, hs⟩ := h2.2 c cs (roomR _ _)
  refine ⟨e, w', ?_, hs⟩
  cases e with
  | returned v => exact hK _ _ (by rw [list_put]; exact h v w' hR)
  | panicked ch => exact hp ch w' hR
  | outgrown => exact hR.elim
end yield
/-! ### A head in many orders -/
section head
variable {P : Program} {ops : Array Oper} {S : World → Prop} {n : Nat} {L : Array Bool → Act → World → Prop}
def wpHd (P : Program) (ops : Array Oper) (S : World → Prop) (L : Array Bool → Act → World → Prop) : Nat → Array Bool → Act → World → Prop
  | 0, listed, a, w => L listed a w
  | f + 1, listed, a, w => Region.ready .any ops listed ≠ [] ∧ ∀ i ∈ Region.ready .any ops listed, wpOp P ops (fun _ _ _ => False) i (fun a' w' => S w' ∧ wpHd P ops S L f (listed.setIfInBounds i true) a' w') a w
theorem Hd_first {i : Nat} {oi : Oper} {v : Value} (hi : ops[i]? = some oi) (hsel : ∀ (j : Nat) (o : Oper) cs b, ops[j]? = some o → o.op ≠ .select cs b)
    (hw : ∀ listed, HeadInv .any ops n listed → listed.getD i true = false → ∀ t, n ≤ t → t ∉ Region.ready .any ops listed) (hL : ∀ listed a w, L listed a w → ∀ j ∈ Region.ready .any ops listed, n ≤ j) :
    ∀ (f : Nat) (listed : Array Bool) (a : Act) (w : World), HeadInv .any ops n listed →
      (∀ j oj, ops[j]? = some oj → j ≠ i → listed.getD j true = false → (∀ e ∈ oj.after, Region.binds .any e = true → e.on ≠ i) → oi.apart ops oj = true) →
      i ∈ Region.ready .any ops listed → GivesIf P ops S oi v a → S w →
      wpHd P ops S L f (listed.setIfInBounds i true) (a.put oi.dst v) w → wpHd P ops S L (f + 1) listed a w := by
  intro f
  induction f with
  | zero =>
    intro listed a w inv _ hr hy hS H
    refine ⟨fun h => (by rw [h] at hr; cases hr), fun j hj => ?_⟩
    by_cases hji : j = i
    · rw [hji]; exact hy.wpOp hi hS ⟨hS, H⟩
    · have h1 := hL _ _ _ H j (ready_mono hj hji)
      exact absurd hj (hw listed inv (mem_ready.1 hr).1 j h1)
  | succ f ih =>
    intro listed a w inv hfree hr hy hS H
    refine ⟨fun h => (by rw [h] at hr; cases hr), fun j hj => ?_⟩
    by_cases hji : j = i
    · rw [hji]; exact hy.wpOp hi hS ⟨hS, H⟩
    · have h1 := H.2 j (ready_mono hj hji)
      obtain ⟨hjun, oj, hoj, hall⟩ := mem_ready.1 hj
      have hiun := (mem_ready.1 hr).1
      have hjn : j < n := by
        rcases Nat.lt_or_ge j n with h | h
        · exact h
        · exact absurd hj (hw listed inv hiun j h)
      have hnot : ∀ e ∈ oj.after, Region.binds .any e = true → e.on ≠ i := fun e he hb heq => by
        have h2 := hall e he hb
        rw [heq, getD_both hiun] at h2
        cases h2
      have h2 := wpOp_putG hoj (hfree j oj hoj hji hjun hnot) (fun cs b => hsel i oi cs b hi) (fun cs b => hsel j oj cs b hoj) (fun _ _ _ h => h) hy h1
      refine wpOp_mono (fun a' w' h3 => ⟨h3.2.1, ih (listed.setIfInBounds j true) a' w' (inv.set hj hjn) (fun k ok hk hki hun hno => ?_) (ready_mono hr (Ne.symm hji)) h3.1 h3.2.1 ?_⟩) h2
      · refine hfree k ok hk hki ?_ hno
        by_cases hjk : j = k
        · rw [← hjk]; exact hjun
        · rw [getD_set_ne true hjk] at hun; exact hun
      · rw [Array.setIfInBounds_comm _ _ hji]
        exact h3.2.2
/-- The schedule of the head; behind it the others in one order. -/
def hdB (ops : Array Oper) (n g : Nat) : List (Bool × Nat) → Array Bool → Bool
  | [], listed => Region.seqB .any ops g n listed
  | (true, i) :: s, listed => decide (i < n) && (Region.ready .any ops listed).contains i && Region.free .any ops listed i && hdB ops n g s (listed.setIfInBounds i true)
  | (false, i) :: s, listed => decide (i < n) && decide (Region.ready .any ops listed = [i]) && hdB ops n g s (listed.setIfInBounds i true)
theorem hd_any {all : List Oper} {ds : List Deferred} {g : Nat} {K : List Value → World → Prop} (hsel : Region.noSelect all.toArray = true) (hs : Region.sinkB .any all.toArray n = true) (hc : behindB .any all.toArray n = true) (hn : n < all.toArray.size) :
    ∀ (s : List (Bool × Nat)) (listed : Array Bool) (l : List Value) (w : World), HeadInv .any all.toArray n listed → hdB all.toArray n g s listed = true → S w → Mixes P ds all S K s l w →
      wpHd P all.toArray S (fun listed' a w => Region.seqB .any all.toArray g n listed' = true ∧ a.defers = ds ∧ K a.tmps.toList w) s.length listed ⟨l.toArray, ds⟩ w := by
  intro s
  induction s with
  | nil => intro listed l w _ hB _ h; exact ⟨by simpa [hdB] using hB, rfl, h⟩
  | cons x s IH =>
    obtain ⟨b, i⟩ := x
    cases b
    · rintro listed l w inv hB hS ⟨o, ho, h⟩
      simp only [hdB, Bool.and_eq_true, decide_eq_true_eq] at hB
      obtain ⟨⟨hin, hr⟩, hB'⟩ := hB
      have hready : i ∈ Region.ready .any all.toArray listed := by rw [hr]; simp
      refine ⟨fun h0 => (by rw [hr] at h0; cases h0), fun k hk => ?_⟩
      have hki : k = i := by rw [hr] at hk; simpa using hk
      rw [hki]
      unfold Ops wpList at h
      unfold wpOp
      rw [List.getElem?_toArray, ho]
      simp only
      have ih : ∀ (a : Act) w', (a.defers = ds ∧ S w' ∧ Mixes P ds all S K s a.tmps.toList w') → (S w' ∧ wpHd P all.toArray S (fun listed' a w => Region.seqB .any all.toArray g n listed' = true ∧ a.defers = ds ∧ K a.tmps.toList w) s.length (listed.setIfInBounds i true) a w') := by
        rintro ⟨t, d⟩ w' ⟨hd, hS', h2⟩
        simp only at hd
        subst hd
        exact ⟨hS', IH _ _ _ (inv.set hready hin) hB' hS' h2⟩
      have hq : ∀ (e : Exit) (a : Act) w', e ≠ .normal → Exit.then (fun (a : Act) w' => a.defers = ds ∧ S w' ∧ Mixes P ds all S K s a.tmps.toList w') (fun _ a _ => a.defers = ds ∧ False) e a w' → False := by
        intro e a w' he h
        cases e <;> first | exact absurd rfl he | exact h.2.elim
      split
      · rename_i hw
        rw [if_pos hw] at h
        rcases h with h | ⟨h1, a1, w1, h2⟩
        · exact .inl (Oper.wp_mono ih (wp_alt hq h))
        · exact .inr ⟨h1, a1, w1, hq _ _ _ (by simp) h2⟩
      · rename_i hw
        rw [if_neg hw] at h
        exact ih _ _ h
    · rintro listed l w inv hB hS ⟨o, ho, v, hv, hK⟩
      simp only [hdB, Bool.and_eq_true, decide_eq_true_eq] at hB
      obtain ⟨⟨⟨hin, hr⟩, hf⟩, hB'⟩ := hB
      have hi : all.toArray[i]? = some o := by rw [List.getElem?_toArray]; exact ho
      have hready : i ∈ Region.ready .any all.toArray listed := by simpa using hr
      refine Hd_first (oi := o) (v := v) hi (Region.noSelect_spec hsel) (fun listed inv hun => head_first hs hc hn inv hin hun) (fun listed a w h => seqB_ready h.1) s.length listed _ w inv (Region.free_spec hi hf) hready ?_ hS ?_
      · rcases hv with ⟨h1, h2⟩ | ⟨h1, h2⟩
        · exact .inl ⟨h1, by rw [rho_eq]; exact h2⟩
        · exact .inr ⟨h1, h2⟩
      · rw [put_putL]
        exact IH _ _ _ (inv.set hready hin) hB' hS hK
theorem any_of_Hd {ro : Option Nat} {m g : Nat} {Q : Exit → Act → World → Prop} (hL : ∀ listed a w, L listed a w → wpAnyIn (FR ro) m P .any ops Q g listed a w) (hd : ∀ (i : Nat) (o : Oper), ops[i]? = some o → i < n → noDef o = true)
    (hin : ∀ listed, HeadInv .any ops n listed → True) : ∀ (f : Nat) (listed : Array Bool) (a : Act) (w : World), (∀ i ∈ Region.ready .any ops listed, True) → wpHd P ops S L f listed a w → (∀ (i : Nat) (o : Oper), ops[i]? = some o → noDef o = true) → wpAnyIn (FR ro) m P .any ops Q (f + g) listed a w
  | 0, listed, a, w, _, h, _ => by rw [Nat.zero_add]; exact hL listed a w h
  | f + 1, listed, a, w, _, h, hnd => by
    rw [show f + 1 + g = (f + g) + 1 by omega]
    exact ⟨fun h0 => absurd h0 h.1, fun i hi => wpOpR (Q := fun _ _ _ => False) (fun a' w' h' => any_of_Hd hL hd hin f _ a' w' (fun _ _ => trivial) h'.2 hnd) (fun _ _ h => h) (fun _ _ _ _ h => h.elim) (hnd i) (h.2 i hi)⟩
theorem wpAnyIn_seq {ro : Option Nat} {m : Nat} {Q : Exit → Act → World → Prop} : ∀ (l : List Oper) (k : Nat) (listed : Array Bool) (a : Act) (w : World), (∀ j, l[j]? = ops[k + j]?) →
    Region.seqB .any ops l.length k listed = true → wpListIn (FR ro) m P ops Q l a w → wpAnyIn (FR ro) m P .any ops Q l.length listed a w
  | [], _, _, _, _, _, hB, h => ⟨by simpa [Region.seqB] using hB, h⟩
  | o :: l, k, listed, a, w, hl, hB, h => by
    have h0 : ops[k]? = some o := by simpa using (hl 0).symm
    simp only [List.length_cons, Region.seqB, Bool.and_eq_true, decide_eq_true_eq] at hB
    obtain ⟨hr, hB'⟩ := hB
    refine ⟨fun h1 => (by rw [hr] at h1; cases h1), fun i hi => ?_⟩
    have hik : i = k := by rw [hr] at hi; simpa using hi
    subst hik
    have ih := fun a w => wpAnyIn_seq (ro := ro) (m := m) (Q := Q) l (i + 1) (listed.setIfInBounds i true) a w (fun j => by have := hl (j + 1); simpa [Nat.add_assoc, Nat.add_comm 1 j] using this) hB'
    unfold wpListIn at h
    unfold wpOpIn
    rw [h0]
    simp only
    split
    · rename_i hw; rw [if_pos hw] at h; exact Oper.wpIn_mono ih h
    · rename_i hw; rw [if_neg hw] at h; exact ⟨h.1, ih _ _ h.2⟩
end head
namespace Rn
section code
variable {f : FuncId} {ro : Option Nat} {P : Program} {ds : List Deferred} {Q : PostD} {l : List Value} {w : World} {cs : List Code}
/-- What is asked at a call of yield that stands as the k-th operation. -/
def AtYield (f : FuncId) (ro : Option Nat) (P : Program) (ds : List Deferred) (cs : List Code) (Q : PostD) (os : List Oper) (k : Nat) (l : List Value) (w : World) : Prop :=
  ∃ (d : Tmp) (y : Operand) (xs : List Operand) (ats : Array TypeId) (ty : TypeId) (pos : String) (af : Array Edge) (L : Nat) (vs : List Value) (R : Value → World → Prop) (RP : Chain → World → Prop),
    os[k]? = some ⟨some d, .call { callee := .value y, args := xs.toArray, argTypes := ats }, ty, pos, af, none⟩ ∧ ev l y = some (.func (.yield L) #[] #[]) ∧ evs l xs = some vs ∧ YieldP P L vs.toArray w R RP ∧
    (∀ v w', R v w' → Ops P ds os (fun l w => Run (f := f) (ro := ro) P ds cs Q l w) (QO Q ds) (os.drop (k + 1)) (l.set d v) w') ∧ (∀ ch w', RP ch w' → Q (.panic ch) ds l w')
theorem tail_list {os : List Oper} {rest : List Oper} (hd : rest.all noDef = true) (hq : ∀ l w, ¬ Q .outgrown ds l w) (h : Ops P ds os (fun l w => Run (f := f) (ro := ro) P ds cs Q l w) (QO Q ds) rest l w) :
    wpListIn (FR ro) 0 P os.toArray (fun e a w' => seqQ (RunX f ro P cs Q) Q e a.defers a.tmps.toList w') rest ⟨l.toArray, ds⟩ w := by
  have := wpListR (ro := ro) (n := 0) (P := P) (ops := os.toArray) (Q := fun e a w' => a.defers = ds ∧ QO Q ds e a.tmps.toList w') (Q' := fun e a w' => seqQ (RunX f ro P cs Q) Q e a.defers a.tmps.toList w')
    (fun a w h => hq _ _ h.2) (fun e a w he h => by cases e <;> first | exact absurd rfl he | (obtain ⟨h1, h2⟩ := h; rw [h1]; exact h2)) rest [] ⟨l.toArray, ds⟩ w hd ?_
  · simpa using this
  · unfold Ops at h
    refine wpList_mono' ?_ _ _ _ h
    rintro a w ⟨hd, h2⟩
    show RunX f ro P cs Q a.defers a.tmps.toList w
    rw [hd]
    exact h2
theorem at_list {os : List Oper} {k : Nat} (hd : (os.drop (k + 1)).all noDef = true) (hq : ∀ l w, ¬ Q .outgrown ds l w) (h : AtYield f ro P ds cs Q os k l w) :
    wpListIn (FR ro) 0 P os.toArray (fun e a w' => seqQ (RunX f ro P cs Q) Q e a.defers a.tmps.toList w') (os.drop k) ⟨l.toArray, ds⟩ w := by
  obtain ⟨d, y, xs, ats, ty, pos, af, L, vs, R, RP, ho, hy, hx, hY, h1, h2⟩ := h
  have e : os.drop k = ⟨some d, .call { callee := .value y, args := xs.toArray, argTypes := ats }, ty, pos, af, none⟩ :: os.drop (k + 1) := by
    obtain ⟨hlt, hk⟩ := List.getElem?_eq_some_iff.1 ho
    rw [List.drop_eq_getElem_cons hlt, hk]
  rw [e]
  exact wpIn_yield hy hx hY (fun v w' hR => tail_list hd hq (h1 v w' hR)) (fun ch w' hR => h2 ch w' hR)
/-- A region in one order, whose k-th operation is a call of yield. -/
theorem run_yield {n : Nat} {os : List Oper} (k : Nat) (hd : (os.take k).all noDef = true) (hd2 : (os.drop (k + 1)).all noDef = true) (hq : ∀ l w, ¬ Q .outgrown ds l w)
    (h : Ops P ds os (AtYield f ro P ds cs Q os k) (fun _ _ _ => False) (os.take k) l w) : Run (f := f) (ro := ro) P ds (.region n os.toArray false :: cs) Q l w := by
  refine wpF_of (wpIn_region_lit ?_)
  have := wpListR (ro := ro) (n := 0) (P := P) (ops := os.toArray) (Q := fun e a w' => a.defers = ds ∧ (fun _ _ _ => False : Post) e a.tmps.toList w') (Q' := fun e a w' => seqQ (RunX f ro P cs Q) Q e a.defers a.tmps.toList w')
    (fun a w h => h.2) (fun e a w he h => h.2.elim) (os.take k) (os.drop k) ⟨l.toArray, ds⟩ w hd ?_
  · rw [List.take_append_drop] at this
    exact this
  · unfold Ops at h
    refine wpList_mono' ?_ _ _ _ h
    rintro ⟨t, d⟩ w ⟨hd', h2⟩
    simp only at hd'
    subst hd'
    exact at_list hd2 hq h2
/-- A region that draws its order: a head in many orders, then a call of yield, then the others in one order. -/
theorem run_head {n : Nat} {all : List Oper} {w0 : World} {SS : List Nat} {es : List Ent} (k : Nat) (s : List (Bool × Nat)) (H : Hp w0 w SS es) (idx : List Nat) (hm : P.follows .mixedOrders = true) (hnd : idx.Nodup)
    (hB : (Region.noSelect all.toArray && decide (s.length = k) && decide (k < all.length) && Region.sinkB .any all.toArray k && behindB .any all.toArray k && hdB all.toArray k (all.length - k) s (Array.replicate all.length false)) = true) (hd : all.all noDef = true) (hq : ∀ l w, ¬ Q .outgrown ds l w)
    (h : ∀ w', w' = { w with drawn := w.drawn + 1 } → Mixes P ds all (fun wz => Hp w0 wz SS (idx.map fun i => es.getD i (none, 0, []))) (AtYield f ro P ds cs Q all k) s l w') : Run (f := f) (ro := ro) P ds (.region n all.toArray true :: cs) Q l w := by
  simp only [Bool.and_eq_true, decide_eq_true_eq] at hB
  obtain ⟨⟨⟨⟨⟨hsel, hlen⟩, hk⟩, hs⟩, hc⟩, hB⟩ := hB
  have hk' : k < all.toArray.size := by simpa using hk
  have inv0 : HeadInv .any all.toArray k (Array.replicate all.length false) :=
    ⟨by simp, fun j oj _ hl => (by rw [getD_replicate_false] at hl; cases hl), fun t _ ht => getD_in (by simpa using ht) (getD_replicate_false _ _)⟩
  have hh := hd_any (g := all.length - k) hsel hs hc hk' s _ l _ inv0 hB (H.drew.pick idx hnd) (h _ rfl)
  have hd2 : (all.drop (k + 1)).all noDef = true := by
    rw [List.all_eq_true] at hd ⊢
    exact fun o ho => hd o (List.mem_of_mem_drop ho)
  have hdl : (all.drop k).length = all.length - k := by simp
  refine wpF_of (wpIn_region_any hm ?_)
  have := any_of_Hd (ro := ro) (m := 0) (n := k) (g := all.length - k) (Q := fun e a w' => seqQ (RunX f ro P cs Q) Q e a.defers a.tmps.toList w') (fun listed a w hL => by
    obtain ⟨h1, h2, h3⟩ := hL
    obtain ⟨t, d⟩ := a
    simp only at h2
    subst h2
    have := wpAnyIn_seq (ro := ro) (m := 0) (ops := all.toArray) (all.drop k) k listed ⟨t, d⟩ w (fun j => by simp [List.getElem?_drop]) (by rw [hdl]; exact h1) (at_list hd2 hq h3)
    rwa [hdl] at this) (fun i o hi _ => noDef_all hd i o hi) (fun _ _ => trivial) _ _ _ _ (fun _ _ => trivial) hh (noDef_all hd)
  rw [hlen, show k + (all.length - k) = all.length by omega] at this
  simpa using this
end code
end Rn
end Go.Proofs.Ytgkciibfpenjpaa
