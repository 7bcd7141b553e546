/-
  Regions that draw their order: first operations that only read, then some in one order, at last again operations that only read, in whatever order.
-/
import Derived.Test.YtbninklfoogmdaaOps
import Derived.OrdersHeld
namespace Go.Proofs.Ytbninklfoogmdaa
open Go Go.RowKit

section
variable {P : Program} {ops : Array Oper} {md : Region.Mode} {w : World} {n m : Nat} {listed : Array Bool}
theorem not_ready_of {t j : Nat} (hw : Region.waitsFor md ops t j = true) (hj : listed.getD j true = false) : t ∉ Region.ready md ops listed := by
  intro hr
  obtain ⟨_, ot, hot, hall⟩ := mem_ready.1 hr
  obtain ⟨o', ho', e, he, hb, hon⟩ := Region.waitsFor_spec hw
  have : o' = ot := Option.some.inj (ho'.symm.trans hot)
  subst this
  have h2 := hall e he hb
  rw [hon, getD_both hj] at h2
  cases h2
theorem sink_blocks (hs : Region.sinkB md ops n = true) (inv : HeadInv md ops n listed) (hn : n < ops.size) : ∀ (d i : Nat), n - i ≤ d → i < n → listed.getD i true = false → n ∉ Region.ready md ops listed
  | 0, i, h, hi, _ => by omega
  | d + 1, i, h, hi, hun => by
    obtain ⟨j, hj, hj2⟩ := List.any_eq_true.1 (List.all_eq_true.1 hs i (List.mem_range.2 hi))
    simp only [Bool.and_eq_true, decide_eq_true_eq] at hj2
    have hjle : j < n + 1 := List.mem_range.1 hj
    by_cases hjn : j = n
    · subst hjn; exact not_ready_of hj2.2 hun
    · refine sink_blocks hs inv hn d j (by omega) (by omega) ?_
      cases hl : listed.getD j false with
      | false => exact getD_in (by rw [inv.size]; omega) hl
      | true =>
        obtain ⟨oj, hoj, e, he, hb, hon⟩ := Region.waitsFor_spec hj2.2
        have h2 := inv.closed j oj hoj hl e he hb
        rw [hon, getD_both hun] at h2
        cases h2
/-- Whatever stands behind the n-th waits for one from the n-th on. -/
def behindB (md : Region.Mode) (ops : Array Oper) (n : Nat) : Bool :=
  (List.range ops.size).all fun t => decide (t ≤ n) || (List.range t).any fun j => decide (n ≤ j) && Region.waitsFor md ops t j
theorem head_first (hs : Region.sinkB md ops n = true) (hc : behindB md ops n = true) (hn : n < ops.size) (inv : HeadInv md ops n listed) {i : Nat} (hi : i < n) (hun : listed.getD i true = false) : ∀ t, n ≤ t → t ∉ Region.ready md ops listed := by
  intro t ht
  by_cases htn : t = n
  · subst htn; exact sink_blocks hs inv hn (t - i) i (Nat.le_refl _) hi hun
  · by_cases htl : t < ops.size
    · have h1 := List.all_eq_true.1 hc t (List.mem_range.2 htl)
      simp only [Bool.or_eq_true, decide_eq_true_eq] at h1
      rcases h1 with h1 | h1
      · omega
      · obtain ⟨j, hj, hj2⟩ := List.any_eq_true.1 h1
        simp only [Bool.and_eq_true, decide_eq_true_eq] at hj2
        have := List.mem_range.1 hj
        exact not_ready_of hj2.2 (inv.tail j hj2.1 (by omega))
    · intro hr
      obtain ⟨_, ot, hot, _⟩ := mem_ready.1 hr
      exact htl (Array.getElem?_eq_some_iff.1 hot).1
/-- The head's first operation may go first. -/
theorem head_pull {i : Nat} {oi : Oper} {v : Value} {L : Array Bool → Act → Prop} (hi : ops[i]? = some oi) (hsel : ∀ (j : Nat) (o : Oper) cs b, ops[j]? = some o → o.op ≠ .select cs b) (hin : i < n)
    (hw : ∀ listed, HeadInv md ops n listed → listed.getD i true = false → ∀ t, n ≤ t → t ∉ Region.ready md ops listed) (hdone : ∀ listed a, L listed a → ∀ j ∈ Region.ready md ops listed, n ≤ j) :
    ∀ (f : Nat) (listed : Array Bool) (a : Act), HeadInv md ops n listed →
      (∀ j oj, ops[j]? = some oj → j ≠ i → listed.getD j true = false → (∀ e ∈ oj.after, Region.binds md e = true → e.on ≠ i) → oi.apart ops oj = true) →
      i ∈ Region.ready md ops listed → YieldsAt P ops w oi v a →
      wpAnyL P md ops w n L f (listed.setIfInBounds i true) (a.put oi.dst v) → wpAnyL P md ops w n L (f + 1) listed a
  | f, listed, a, inv, hfree, hr, hy, H => by
    have hun := (mem_ready.1 hr).1
    refine ⟨fun h => (by rw [h] at hr; cases hr), fun j hj => ?_⟩
    have hjn : j < n := Nat.lt_of_not_le fun h => hw listed inv hun j h hj
    refine ⟨hjn, ?_⟩
    by_cases hji : j = i
    · subst hji; exact hy.stOp hi H
    · cases f with
      | zero => have := hdone _ _ H j (ready_mono hj hji); omega
      | succ f =>
        obtain ⟨hjun, oj, hoj, hall⟩ := mem_ready.1 hj
        have h2 := stOp_put hoj (hfree j oj hoj hji hjun fun e he hb heq => by
            have h1 := hall e he hb
            rw [heq, getD_both hun] at h1
            cases h1) (fun cs b => hsel i oi cs b hi) (fun cs b => hsel j oj cs b hoj) hy (H.2 j (ready_mono hj hji)).2
        refine stOp_mono (fun a' h3 => head_pull hi hsel hin hw hdone f (listed.setIfInBounds j true) a' (inv.set hj hjn) (fun k ok hk hki hu hno => ?_) (ready_mono hr (Ne.symm hji)) h3.1 ?_) h2
        · refine hfree k ok hk hki ?_ hno
          by_cases hjk : j = k
          · subst hjk; exact hjun
          · rw [getD_set_ne true hjk] at hu; exact hu
        · rw [Array.setIfInBounds_comm _ _ hji]
          exact h3.2
/-- From the n-th on: so many in one order, then whatever order. -/
def midB (md : Region.Mode) (ops : Array Oper) : Nat → Nat → Array Bool → Bool
  | 0, k, listed => Region.lexFrom md ops (ops.size - k) k listed
  | g + 1, k, listed => decide (Region.ready md ops listed = [k]) && midB md ops g (k + 1) (listed.setIfInBounds k true)
def headB (md : Region.Mode) (ops : Array Oper) (g : Nat) : Nat → Nat → Array Bool → Bool
  | 0, k, listed => midB md ops (g + 1) k listed
  | f + 1, k, listed => (Region.ready md ops listed).contains k && Region.free md ops listed k && headB md ops g f (k + 1) (listed.setIfInBounds k true)
def lexMidB (md : Region.Mode) (ops : Array Oper) (n g : Nat) : Bool :=
  Region.noSelect ops && decide (n + g < ops.size) && Region.sinkB md ops n && behindB md ops n && headB md ops g n 0 (Array.replicate ops.size false)
theorem head_lex {g : Nat} {Lq : Act → Prop} (hsel : Region.noSelect ops = true) (hs : Region.sinkB md ops n = true) (hc : behindB md ops n = true) (hn : n < ops.size) :
    ∀ (l : List Oper) (k : Nat) (listed : Array Bool) (a : Act), (∀ j, j < l.length → l[j]? = ops[k + j]?) → k + l.length = n → HeadInv md ops n listed →
    headB md ops g l.length k listed = true → wpStill P ops w Lq l a →
    wpAnyL P md ops w n (fun listed' a' => midB md ops (g + 1) n listed' = true ∧ Lq a') l.length listed a
  | [], k, listed, a, _, hk, _, hB, h => by
    have : k = n := by simpa using hk
    subst this
    exact ⟨by simpa [headB] using hB, h⟩
  | o :: l, k, listed, a, hl, hk, inv, hB, h => by
    have h0 : ops[k]? = some o := by simpa using (hl 0 (by simp)).symm
    simp only [List.length_cons, headB, Bool.and_eq_true] at hB
    obtain ⟨⟨hr, hf⟩, hB'⟩ := hB
    have hkn : k < n := by simp only [List.length_cons] at hk; omega
    have hr' : k ∈ Region.ready md ops listed := by simpa using hr
    have hst : stOp P ops w k (wpStill P ops w Lq l) a := by unfold stOp; simp only [h0]; exact h
    obtain ⟨v, hy, hK⟩ := yieldsAt_of_stOp h0 hst
    refine head_pull h0 (Region.noSelect_spec hsel) hkn (fun listed inv hu => head_first hs hc hn inv hkn hu) (fun listed' a' hL j hj => ?_) l.length listed a inv (Region.free_spec h0 hf) hr' hy
      (head_lex hsel hs hc hn l (k + 1) _ _ (fun j hj => by have := hl (j + 1) (by simp; omega); simpa [Nat.add_assoc, Nat.add_comm 1 j] using this) (by simp only [List.length_cons] at hk; omega) (inv.set hr' hkn) hB' hK)
    have h1 := hL.1
    simp only [midB, Bool.and_eq_true, decide_eq_true_eq] at h1
    rw [h1.1] at hj
    have : j = n := by simpa using hj
    omega
theorem wp_alt {o : Oper} {a : Act} {K : Act → World → Prop} {Q1 Q2 : Exit → Act → World → Prop} (hq : ∀ e a w, e ≠ .normal → Q1 e a w → Q2 e a w) (hh : o.wp P a w K Q1) : o.wp P a w K Q2 := by
  unfold Oper.wp at *
  generalize (execOp a.eval o).run P w = r at *
  cases r with
  | ok n w' =>
    cases n <;> simp only [Oper.upon] at hh ⊢ <;>
      first
        | exact hh
        | exact Calls.mono hh (fun e w'' he => by
            cases e with
            | returned v => exact he
            | panicked c => exact hq _ _ _ (by simp) he
            | outgrown => exact (let ⟨a, w, h⟩ := he; ⟨a, w, hq _ _ _ (by simp) h⟩))
  | halt x w' =>
    cases x <;> simp only [Oper.upon] at hh ⊢ <;> first | exact hq _ _ _ (by simp) hh | exact hh
/-- What stands behind the head: g operations in one order (each may do what it likes), then operations that only read. -/
theorem mid_any {Q' : Exit → Act → World → Prop} (hsel : Region.noSelect ops = true) : ∀ (l1 l2 : List Oper) (k : Nat) (listed : Array Bool) (a : Act) (w : World), (∀ j, (l1 ++ l2)[j]? = ops[k + j]?) → ops.size - k = (l1 ++ l2).length →
    midB md ops l1.length k listed = true → wpList P ops (Exit.then (fun a' w' => wpStill P ops w' (fun a'' => Q' .normal a'' w') l2 a') Q') l1 a w →
    wpAny P md ops Q' (l1 ++ l2).length listed a w
  | [], l2, k, listed, a, w, hl, hsz, hB, h => by
    simp only [List.nil_append, List.length_nil, midB] at hl hB hsz ⊢
    rw [hsz] at hB
    exact wpAny_of_still (fun _ h => h) _ _ _ (wpAnyS_lex hsel l2 k listed a hl hB h)
  | o :: l1, l2, k, listed, a, w, hl, hsz, hB, h => by
    have h0 : ops[k]? = some o := by simpa using (hl 0).symm
    simp only [List.length_cons, midB, Bool.and_eq_true, decide_eq_true_eq] at hB
    refine ⟨fun h1 => (by rw [hB.1] at h1; cases h1), fun i hi => ?_⟩
    rw [hB.1] at hi
    have hik : i = k := by simpa using hi
    subst hik
    have ih := fun a' w' h' => mid_any (Q' := Q') hsel l1 l2 (i + 1) (listed.setIfInBounds i true) a' w' (fun j => by have := hl (j + 1); simpa [Nat.add_assoc, Nat.add_comm 1 j] using this)
      (by simp only [List.cons_append, List.length_cons] at hsz; omega) hB.2 h'
    unfold wpOp
    simp only [h0]
    unfold wpList at h
    split
    · rename_i hw
      rw [if_pos hw] at h
      rcases h with h | ⟨h1, a1, w1, h2⟩
      · exact .inl (Oper.wp_mono ih (wp_alt (fun e a w he h => by cases e <;> first | exact absurd rfl he | exact h) h))
      · exact .inr ⟨h1, a1, w1, h2⟩
    · rename_i hw
      rw [if_neg hw] at h
      exact ih _ _ h
theorem wp_region_mid {id : Nat} {Q : Exit → Act → World → Prop} {a : Act} {l l1 l2 l3 : List Oper} (hl : l = l1 ++ (l2 ++ l3)) (n g : Nat) (hn : l1.length = n) (hg : l2.length = g + 1) (hm : P.follows .mixedOrders = true) (hB : lexMidB .any l.toArray n g = true)
    (h : wpStill P l.toArray { w with drawn := w.drawn + 1 } (fun a' => wpList P l.toArray (Exit.then (fun a' w' => wpStill P l.toArray w' (fun a'' => Q .normal a'' w') l3 a') Q) l2 a' { w with drawn := w.drawn + 1 }) l1 a) : (Code.region id l.toArray true).wp P Q a w := by
  simp only [lexMidB, Bool.and_eq_true, decide_eq_true_eq] at hB
  obtain ⟨⟨⟨⟨hsel, hlt⟩, hs⟩, hc⟩, hlex⟩ := hB
  subst hn
  have hlen : l.length = l1.length + (l2.length + l3.length) := by rw [hl]; simp
  have hn' : l1.length < l.toArray.size := by simp only [List.size_toArray] at hlt ⊢; omega
  have inv0 : HeadInv .any l.toArray l1.length (Array.replicate l.toArray.size false) :=
    ⟨by simp, fun j oj _ hl => (by rw [getD_replicate_false] at hl; cases hl), fun t _ ht => getD_in (by simpa using ht) (getD_replicate_false _ _)⟩
  have H := head_lex (md := .any) (g := g) hsel hs hc hn' l1 0 _ a (fun j hj => by subst hl; rw [Nat.zero_add, List.getElem?_toArray, List.getElem?_append_left hj]) (by simp) inv0 hlex h
  refine wp_region_any hm ?_
  have := wpAny_of_head (Q' := Q) (g := l.toArray.size - l1.length) (fun listed a' hL => by
    have hsz : l.toArray.size - l1.length = (l2 ++ l3).length := by simp only [List.size_toArray, List.length_append]; omega
    rw [hsz]
    refine mid_any hsel l2 l3 l1.length listed a' _ ?_ hsz (by rw [hg]; exact hL.1) hL.2
    intro j
    subst hl
    rw [List.getElem?_toArray]
    exact ((List.getElem?_append_right (l₁ := l1) (l₂ := l2 ++ l3) (by omega)).trans (by rw [Nat.add_sub_cancel_left])).symm) l1.length (Array.replicate l.toArray.size false) a H
  have he : l1.length + (l.toArray.size - l1.length) = l.toArray.size := by simp only [List.size_toArray] at hn' ⊢; omega
  rw [he] at this
  exact this
end
/-- The same over frames. -/
theorem run_mid {P : Program} {ds : List Deferred} {Q : Post} {l : List Value} {w : World} {cs : List Code} {n : Nat} {os : List Oper} (k g : Nat) (hm : P.follows .mixedOrders = true) (hB : lexMidB .any os.toArray k g = true) (hk : (os.take k).length = k) (hg : ((os.drop k).take (g + 1)).length = g + 1)
    (h : ∀ w', w' = { w with drawn := w.drawn + 1 } → Still P ds os w' (fun l' => Ops P ds os (fun l2 w2 => Still P ds os w2 (fun l3 => Run P ds cs Q l3 w2) ((os.drop k).drop (g + 1)) l2) Q ((os.drop k).take (g + 1)) l' w') (os.take k) l) : Run P ds (.region n os.toArray true :: cs) Q l w := by
  refine wp_region_mid (l1 := os.take k) (l2 := (os.drop k).take (g + 1)) (l3 := (os.drop k).drop (g + 1)) (by rw [List.take_append_drop, List.take_append_drop]) k g hk hg hm hB ?_
  have h' := h _ rfl
  unfold Still at h'
  refine still_mono ?_ _ _ h'
  rintro ⟨t, d⟩ ⟨hd, h2⟩
  simp only at hd
  subst hd
  unfold Ops at h2
  have mono : ∀ (os' : List Oper) (a : Act) (w : World) (K1 K2 : Act → World → Prop) (Q1 Q2 : Exit → Act → World → Prop), (∀ a w, K1 a w → K2 a w) → (∀ e a w, e ≠ .normal → Q1 e a w → Q2 e a w) → wpList P os.toArray (Exit.then K1 Q1) os' a w → wpList P os.toArray (Exit.then K2 Q2) os' a w := by
    intro os'
    induction os' with
    | nil => intro a w K1 K2 Q1 Q2 hK hq h; exact hK _ _ h
    | cons o os' ih =>
      intro a w K1 K2 Q1 Q2 hK hq h
      unfold wpList at h ⊢
      split
      · rename_i hw
        rw [if_pos hw] at h
        rcases h with h | ⟨h1, a1, w1, h2⟩
        · exact .inl (Oper.wp_mono (fun a w h => ih a w K1 K2 Q1 Q2 hK hq h) (wp_alt (fun e a w he h => by cases e <;> first | exact absurd rfl he | exact hq _ _ _ he h) h))
        · exact .inr ⟨h1, a1, w1, hq _ _ _ (by simp) h2⟩
      · rename_i hw
        rw [if_neg hw] at h
        exact ih _ _ _ _ _ _ hK hq h
  refine mono _ _ _ _ _ _ _ ?_ (fun e a w he h => ?_) h2
  · rintro ⟨t, d'⟩ w' ⟨hd, h3⟩
    simp only at hd
    subst hd
    exact h3
  · cases e <;> first | exact absurd rfl he | exact h
/-- What an operation yields, and leaves the world as it is: by itself, or by a call that only reads. -/
def Gives (P : Program) (ρ : Operand → Value) (o : Oper) (w : World) (v : Value) : Prop :=
  (execOp ρ o).run P w = .ok (.value v) w ∨ ∃ f args, (execOp ρ o).run P w = .ok (.enter f args) w ∧ Calls P f args w fun e w' => e = .returned v ∧ w' = w
def GivesIf (P : Program) (ops : Array Oper) (S : World → Prop) (o : Oper) (v : Value) (a : Act) : Prop :=
  (Region.wanted o (yielded ops a.tmps) = true ∧ ∀ w, S w → Gives P a.eval o w v) ∨ (Region.wanted o (yielded ops a.tmps) = false ∧ v = undef)
section gives
variable {P : Program} {ops : Array Oper} {Q : Exit → Act → World → Prop} {md : Region.Mode} {S : World → Prop}
theorem GivesIf.wpOp {i : Nat} {o : Oper} {v : Value} {a : Act} (hi : ops[i]? = some o) (hy : GivesIf P ops S o v a) {K : Act → World → Prop} {w : World} (hS : S w) (h : K (a.put o.dst v) w) : wpOp P ops Q i K a w := by
  unfold Go.wpOp
  simp only [hi]
  rcases hy with ⟨hw, hv⟩ | ⟨hw, rfl⟩
  · simp only [hw, if_true]
    refine .inl ?_
    unfold Oper.wp
    rcases hv w hS with h1 | ⟨f, args, h1, h2⟩
    · rw [h1]; exact h
    · rw [h1]
      refine Calls.mono h2 ?_
      rintro e w' ⟨rfl, rfl⟩
      exact h
  · simp only [hw, Bool.false_eq_true, if_false]; exact h
theorem GivesIf.of_same {o : Oper} {v : Value} {a a' : Act} (hy : GivesIf P ops S o v a) (he : execOp a'.eval o = execOp a.eval o)
    (hw : Region.wanted o (yielded ops a'.tmps) = Region.wanted o (yielded ops a.tmps)) : GivesIf P ops S o v a' := by
  unfold GivesIf Gives at *
  rw [he, hw]
  exact hy
theorem wpOp_putG {j : Nat} {oi oj : Oper} {v : Value} (hj : ops[j]? = some oj) (hap : oi.apart ops oj = true)
    (hsi : ∀ cs b, oi.op ≠ .select cs b) (hsj : ∀ cs b, oj.op ≠ .select cs b)
    (hQ : ∀ c a w, Q (.panic c) (a.put oi.dst v) w → Q (.panic c) a w) {K : Act → World → Prop} {a : Act} {w : World}
    (hy : GivesIf P ops S oi v a) (h : wpOp P ops Q j K (a.put oi.dst v) w) :
    wpOp P ops Q j (fun a' w' => GivesIf P ops S oi v a' ∧ K (a'.put oi.dst v) w') a w := by
  obtain ⟨h1, h2, h3⟩ := Oper.apart_spec hap
  have keep : ∀ (a : Act), GivesIf P ops S oi v a → ∀ u, GivesIf P ops S oi v (a.put oj.dst u) := fun a hy u =>
    hy.of_same (execOp_put oi hsi a oj.dst u h3) (wanted_put oi a oj.dst u h3)
  have keepD : ∀ d, GivesIf P ops S oi v { a with defers := d :: a.defers } := fun d => hy.of_same rfl rfl
  unfold wpOp at *
  simp only [hj] at *
  rw [wanted_put oj a oi.dst v h1] at h
  split
  · rename_i hw
    simp only [hw, if_true] at h
    rcases h with h | ⟨hasks, hlets⟩
    case inr => exact .inr ⟨by unfold Oper.asks at *; rw [execOp_put oj hsj a oi.dst v h1] at hasks; exact hasks, hlets⟩
    refine .inl ?_
    unfold Oper.wp at *
    rw [execOp_put oj hsj a oi.dst v h1] at h
    generalize (execOp a.eval oj).run P w = r at *
    cases r with
    | ok n w' =>
      cases n <;> simp only [Oper.upon] at h ⊢
      case value u => exact ⟨keep a hy u, by rw [← Act.put_comm a v u h2]; exact h⟩
      case skip => exact ⟨keep a hy _, by rw [← Act.put_comm a v undef h2]; exact h⟩
      case defer d =>
        refine ⟨keep _ (keepD d) _, ?_⟩
        rw [← Act.put_comm _ v undef h2, ← Act.put_defers]
        exact h
      case enter f args =>
        refine Calls.mono h fun e w'' he => ?_
        cases e with
        | returned u => exact ⟨keep a hy u, by rw [← Act.put_comm a v u h2]; exact he⟩
        | panicked c => exact hQ _ _ _ he
        | outgrown => exact he
      case row row args => exact Rows.mono h fun u w'' he => ⟨keep a hy u, by rw [← Act.put_comm a v u h2]; exact he⟩
    | halt x w' =>
      cases x <;> simp only [Oper.upon] at h ⊢
      case panic u => exact hQ _ _ _ h
  · rename_i hw
    simp only [hw] at h
    exact ⟨keep a hy _, by rw [← Act.put_comm a v undef h2]; exact h⟩
theorem wpAnyG_first {i : Nat} {oi : Oper} {v : Value} (hi : ops[i]? = some oi) (hsel : ∀ (j : Nat) (o : Oper) cs b, ops[j]? = some o → o.op ≠ .select cs b)
    (hQ : ∀ c a w, Q (.panic c) (a.put oi.dst v) w → Q (.panic c) a w) :
    ∀ (fuel : Nat) (listed : Array Bool) (a : Act) (w : World),
      (∀ j oj, ops[j]? = some oj → j ≠ i → listed.getD j true = false → (∀ e ∈ oj.after, Region.binds md e = true → e.on ≠ i) → oi.apart ops oj = true) →
      i ∈ Region.ready md ops listed → GivesIf P ops S oi v a → S w →
      wpAnyH P md ops Q S fuel (listed.setIfInBounds i true) (a.put oi.dst v) w → wpAnyH P md ops Q S (fuel + 1) listed a w := by
  intro fuel
  induction fuel with
  | zero =>
    intro listed a w _ hr hy hS H
    refine ⟨fun h => (by rw [h] at hr; cases hr), fun j hj => ?_⟩
    by_cases hji : j = i
    · subst hji; exact hy.wpOp hi hS ⟨hS, H⟩
    · have := ready_mono hj hji
      rw [H.1] at this
      cases this
  | succ fuel ih =>
    intro listed a w hfree hr hy hS H
    refine ⟨fun h => (by rw [h] at hr; cases hr), fun j hj => ?_⟩
    by_cases hji : j = i
    · subst hji; exact hy.wpOp hi hS ⟨hS, H⟩
    · have h1 := H.2 j (ready_mono hj hji)
      obtain ⟨hjun, oj, hoj, hall⟩ := mem_ready.1 hj
      have hiun := (mem_ready.1 hr).1
      have hnot : ∀ e ∈ oj.after, Region.binds md e = true → e.on ≠ i := fun e he hb heq => by
        have h2 := hall e he hb
        rw [heq, getD_both hiun] at h2
        cases h2
      have h2 := wpOp_putG hoj (hfree j oj hoj hji hjun hnot) (fun cs b => hsel i oi cs b hi) (fun cs b => hsel j oj cs b hoj) hQ hy h1
      have hfree' : ∀ k ok, ops[k]? = some ok → k ≠ i → (listed.setIfInBounds j true).getD k true = false →
          (∀ e ∈ ok.after, Region.binds md e = true → e.on ≠ i) → oi.apart ops ok = true := fun k ok hk hki hun hno => by
        refine hfree k ok hk hki ?_ hno
        by_cases hjk : j = k
        · subst hjk; exact hjun
        · rw [getD_set_ne true hjk] at hun; exact hun
      refine wpOp_mono (fun a' w' h3 => ⟨h3.2.1, ih (listed.setIfInBounds j true) a' w' hfree' (ready_mono hr (Ne.symm hji)) h3.1 h3.2.1 ?_⟩) h2
      rw [Array.setIfInBounds_comm _ _ hji]
      exact h3.2.2
theorem wpAnyG_take {i : Nat} {oi : Oper} {v : Value} {fuel : Nat} {listed : Array Bool} {a : Act} {w : World} (hi : ops[i]? = some oi)
    (hs : Region.noSelect ops = true) (hf : Region.free md ops listed i = true) (hr : (Region.ready md ops listed).contains i = true)
    (hQ : ∀ c a w, Q (.panic c) (a.put oi.dst v) w → Q (.panic c) a w) (hy : GivesIf P ops S oi v a) (hS : S w)
    (h : wpAnyH P md ops Q S fuel (listed.setIfInBounds i true) (a.put oi.dst v) w) : wpAnyH P md ops Q S (fuel + 1) listed a w :=
  wpAnyG_first hi (Region.noSelect_spec hs) hQ fuel listed a w (Region.free_spec hi hf) (by simpa using hr) hy hS h
end gives
/-! A region that draws its order, where operations that yield the same in whatever world lie between others that have one order. -/
def mixB (ops : Array Oper) : List (Bool × Nat) → Array Bool → Bool
  | [], listed => (Region.ready .any ops listed).isEmpty
  | (true, i) :: s, listed => (Region.ready .any ops listed).contains i && Region.free .any ops listed i && mixB ops s (listed.setIfInBounds i true)
  | (false, i) :: s, listed => decide (Region.ready .any ops listed = [i]) && mixB ops s (listed.setIfInBounds i true)
def putL (l : List Value) : Option Tmp → Value → List Value
  | some d, v => l.set d v
  | none, _ => l
section mix
variable {P : Program} {ds : List Deferred} {all : List Oper} {S : World → Prop} {K : List Value → World → Prop} {l : List Value} {w : World} {op : Op} {ty : TypeId} {pos : String} {af : Array Edge} {d : Tmp} {v : Value} {o : Oper} {i : Nat} {s : List (Bool × Nat)}
/-- One operation that yields the same in whatever world that is so. -/
def Mix1 (P : Program) (all : List Oper) (S : World → Prop) (K : List Value → World → Prop) (o : Oper) (l : List Value) (w : World) : Prop :=
  ∃ v, ((Region.wanted o (yielded all.toArray l.toArray) = true ∧ ∀ w', S w' → Gives P (rho l) o w' v) ∨ (Region.wanted o (yielded all.toArray l.toArray) = false ∧ v = undef)) ∧ K (putL l o.dst v) w
def Mixes (P : Program) (ds : List Deferred) (all : List Oper) (S : World → Prop) (K : List Value → World → Prop) : List (Bool × Nat) → List Value → World → Prop
  | [], l, w => K l w
  | (true, i) :: s, l, w => ∃ o, all[i]? = some o ∧ Mix1 P all S (Mixes P ds all S K s) o l w
  | (false, i) :: s, l, w => ∃ o, all[i]? = some o ∧ Ops P ds all (fun l' w' => S w' ∧ Mixes P ds all S K s l' w') (fun _ _ _ => False) [o] l w
theorem mix_nil (h : K l w) : Mixes P ds all S K [] l w := h
theorem mix_p (ho : all[i]? = some o) (h : Mix1 P all S (Mixes P ds all S K s) o l w) : Mixes P ds all S K ((true, i) :: s) l w := ⟨o, ho, h⟩
theorem mix_o (ho : all[i]? = some o) (h : Ops P ds all (fun l' w' => S w' ∧ Mixes P ds all S K s l' w') (fun _ _ _ => False) [o] l w) : Mixes P ds all S K ((false, i) :: s) l w := ⟨o, ho, h⟩
theorem mix1_val (hx : ∀ w, S w → Ex P l op ty w (.value v) w) (h : K (l.set d v) w) : Mix1 P all S K ⟨some d, op, ty, pos, af, none⟩ l w := ⟨v, .inl ⟨rfl, fun w' hw => .inl (hx w' hw _ _ _ _)⟩, h⟩
/-- A call that only reads. -/
theorem mix1_call {f : FuncId} {args : Array Value} (hx : ∀ w, S w → Ex P l op ty w (.enter f args) w) (hc : ∀ w, S w → Does P f args w fun r w' => r = v ∧ w' = w) (h : K (l.set d v) w) : Mix1 P all S K ⟨some d, op, ty, pos, af, none⟩ l w :=
  ⟨v, .inl ⟨rfl, fun w' hw => .inr ⟨f, args, hx w' hw _ _ _ _, Calls.mono (hc w' hw) fun e w2 ⟨r, h1, h2, h3⟩ => ⟨by rw [h1, h2], h3⟩⟩⟩, h⟩
theorem mix1_yes {dst : Option Tmp} {j : Nat} {b : Bool} (hg : yes all l j = some b) (h : Mix1 P all S K ⟨dst, op, ty, pos, af, none⟩ l w) : Mix1 P all S K ⟨dst, op, ty, pos, af, some (j, b)⟩ l w := by
  have e1 : Region.wanted ⟨dst, op, ty, pos, af, some (j, b)⟩ (yielded all.toArray l.toArray) = true := by simp [Region.wanted, yielded_eq, hg]
  obtain ⟨v, ⟨_, hv⟩ | ⟨h1, _⟩, h2⟩ := h
  · exact ⟨v, .inl ⟨e1, hv⟩, h2⟩
  · cases h1
theorem mix1_no {j : Nat} {b : Bool} (hg : (yes all l j == some b) = false) (h : K (l.set d undef) w) : Mix1 P all S K ⟨some d, op, ty, pos, af, some (j, b)⟩ l w :=
  ⟨undef, .inr ⟨by simpa [Region.wanted, yielded_eq] using hg, rfl⟩, h⟩
theorem mix1_true {p : Prop} {_ : Decidable p} (hx : ∀ w, S w → Ex P l op ty w (.value (.bool (decide p))) w) (hp : p) (h : K (l.set d (.bool true)) w) : Mix1 P all S K ⟨some d, op, ty, pos, af, none⟩ l w :=
  mix1_val hx (by rw [decide_eq_true hp]; exact h)
theorem mix1_false {p : Prop} {_ : Decidable p} (hx : ∀ w, S w → Ex P l op ty w (.value (.bool (decide p))) w) (hp : ¬ p) (h : K (l.set d (.bool false)) w) : Mix1 P all S K ⟨some d, op, ty, pos, af, none⟩ l w :=
  mix1_val hx (by rw [decide_eq_false hp]; exact h)
theorem mix1_test {p : Prop} {_ : Decidable p} (hx : ∀ w, S w → Ex P l op ty w (.value (.bool (decide p))) w) (h1 : p → K (l.set d (.bool true)) w) (h2 : ¬ p → K (l.set d (.bool false)) w) : Mix1 P all S K ⟨some d, op, ty, pos, af, none⟩ l w := by
  by_cases hp : p
  · exact mix1_true hx hp (h1 hp)
  · exact mix1_false hx hp (h2 hp)
theorem put_putL (l : List Value) (ds : List Deferred) (dst : Option Tmp) (v : Value) : (⟨l.toArray, ds⟩ : Act).put dst v = ⟨(putL l dst v).toArray, ds⟩ := by
  cases dst with
  | none => rfl
  | some d => exact list_put l ds d v
theorem mix_any (hsel : Region.noSelect all.toArray = true) : ∀ (s : List (Bool × Nat)) (listed : Array Bool) (l : List Value) (w : World), mixB all.toArray s listed = true → S w → Mixes P ds all S K s l w →
    wpAnyH P .any all.toArray (fun e a w' => a.defers = ds ∧ seqQ K (fun _ _ _ => False) e a.tmps.toList w') S s.length listed ⟨l.toArray, ds⟩ w := by
  intro s
  induction s with
  | nil => intro listed l w hB _ h; exact wpAnyH_done (by simpa [mixB] using hB) ⟨rfl, h⟩ 0
  | cons x s IH =>
    obtain ⟨b, i⟩ := x
    cases b
    · rintro listed l w hB hS ⟨o, ho, h⟩
      simp only [mixB, Bool.and_eq_true, decide_eq_true_eq] at hB
      refine wpAnyH_all hB.1 (by simp) fun k hk => ?_
      have hki : k = i := by simpa using hk
      rw [hki]
      unfold Ops wpList at h
      unfold wpOp
      rw [List.getElem?_toArray, ho]
      simp only
      have ih : ∀ (a : Act) w', (a.defers = ds ∧ S w' ∧ Mixes P ds all S K s a.tmps.toList w') → (S w' ∧ wpAnyH P .any all.toArray (fun e a w' => a.defers = ds ∧ seqQ K (fun _ _ _ => False) e a.tmps.toList w') S s.length (listed.setIfInBounds i true) a w') := by
        rintro ⟨t, d⟩ w' ⟨hd, hS', h2⟩
        simp only at hd
        subst hd
        exact ⟨hS', IH _ _ _ hB.2 hS' h2⟩
      have hq : ∀ (e : Exit) (a : Act) w', e ≠ .normal → Exit.then (fun (a : Act) w' => a.defers = ds ∧ S w' ∧ Mixes P ds all S K s a.tmps.toList w') (fun _ a _ => a.defers = ds ∧ False) e a w' → (a.defers = ds ∧ seqQ K (fun _ _ _ => False) e a.tmps.toList w') := by
        intro e a w' he h
        cases e <;> first | exact absurd rfl he | exact h.2.elim
      split
      · rename_i hw
        rw [if_pos hw] at h
        rcases h with h | ⟨h1, a1, w1, h2⟩
        · exact .inl (Oper.wp_mono ih (wp_alt hq h))
        · exact .inr ⟨h1, a1, w1, hq _ _ _ (by simp) h2⟩
      · rename_i hw
        rw [if_neg hw] at h
        exact ih _ _ h
    · rintro listed l w hB hS ⟨o, ho, v, hv, hK⟩
      simp only [mixB, Bool.and_eq_true] at hB
      refine wpAnyG_take (oi := o) (v := v) (by rw [List.getElem?_toArray]; exact ho) hsel hB.1.2 hB.1.1 (fun _ _ _ h => h.2.elim) ?_ hS ?_
      · rcases hv with ⟨h1, h2⟩ | ⟨h1, h2⟩
        · exact .inl ⟨h1, by rw [rho_eq]; exact h2⟩
        · exact .inr ⟨h1, h2⟩
      · rw [put_putL]
        exact IH _ _ _ hB.2 hS hK
theorem run_mix {Q : Post} {cs : List Code} {n : Nat} (s : List (Bool × Nat)) (S : World → Prop) (hm : P.follows .mixedOrders = true) (hB : (Region.noSelect all.toArray && decide (s.length = all.length) && mixB all.toArray s (Array.replicate all.length false)) = true)
    (h : ∀ w', w' = { w with drawn := w.drawn + 1 } → S w' ∧ Mixes P ds all S (Run P ds cs Q) s l w') : Run P ds (.region n all.toArray true :: cs) Q l w := by
  simp only [Bool.and_eq_true, decide_eq_true_eq] at hB
  obtain ⟨⟨hsel, hlen⟩, hB⟩ := hB
  show Cd P ds _ _ l w
  unfold Cd
  refine Go.wp_mono (Q := fun e a w' => a.defers = ds ∧ seqQ (Run P ds cs Q) (fun _ _ _ => False) e a.tmps.toList w') (wp_region_held (S := S) hm ?_) ?_
  · have := mix_any hsel s _ l _ hB (h _ rfl).1 (h _ rfl).2
    rw [hlen] at this
    simpa using this
  · rintro e a w' ⟨hd, h2⟩
    cases e <;> first | exact ⟨hd, h2⟩ | exact h2.elim
theorem run_mixH {Q : Post} {cs : List Code} {n : Nat} {w0 : World} {SS : List Nat} {es : List Ent} (s : List (Bool × Nat)) (H : Hp w0 w SS es) (idx : List Nat) (hm : P.follows .mixedOrders = true) (hnd : idx.Nodup)
    (hB : (Region.noSelect all.toArray && decide (s.length = all.length) && mixB all.toArray s (Array.replicate all.length false)) = true)
    (h : ∀ w', w' = { w with drawn := w.drawn + 1 } → Mixes P ds all (fun wz => Hp w0 wz SS (idx.map fun i => es.getD i (none, 0, []))) (Run P ds cs Q) s l w') : Run P ds (.region n all.toArray true :: cs) Q l w :=
  run_mix s _ hm hB fun w' hw' => ⟨by rw [hw']; exact H.drew.pick idx hnd, h w' hw'⟩
/-! The same, where the last operation, which waits for all others, may turn what was told. -/
def wpAnyZ (P : Program) (ops : Array Oper) (Q : Exit → Act → World → Prop) (S : World → Prop) (z : Nat) : Nat → Array Bool → Act → World → Prop
  | 0, listed, a, w => Region.ready .any ops listed = [] ∧ Q .normal a w
  | f + 1, listed, a, w => (Region.ready .any ops listed = [] → Q .normal a w) ∧
    ∀ i ∈ Region.ready .any ops listed, wpOp P ops Q i (fun a' w' => (i ≠ z → S w') ∧ wpAnyZ P ops Q S z f (listed.setIfInBounds i true) a' w') a w
theorem any_of_Z {ops : Array Oper} {Q : Exit → Act → World → Prop} {z : Nat} : ∀ (f : Nat) (listed : Array Bool) (a : Act) (w : World), wpAnyZ P ops Q S z f listed a w → wpAny P .any ops Q f listed a w
  | 0, _, _, _, h => h
  | f + 1, _, _, _, h => ⟨h.1, fun i hi => wpOp_mono (fun a' w' h' => any_of_Z f _ a' w' h'.2) (h.2 i hi)⟩
theorem Z_first {ops : Array Oper} {Q : Exit → Act → World → Prop} {z i : Nat} {oi : Oper} {v : Value} (hi : ops[i]? = some oi) (hsel : ∀ (j : Nat) (o : Oper) cs b, ops[j]? = some o → o.op ≠ .select cs b)
    (hQ : ∀ c a w, Q (.panic c) (a.put oi.dst v) w → Q (.panic c) a w) (hs : Region.sinkB .any ops z = true) (hz : z + 1 = ops.size) (hiz : i < z) :
    ∀ (f : Nat) (listed : Array Bool) (a : Act) (w : World), HeadInv .any ops z listed →
      (∀ j oj, ops[j]? = some oj → j ≠ i → listed.getD j true = false → (∀ e ∈ oj.after, Region.binds .any e = true → e.on ≠ i) → oi.apart ops oj = true) →
      i ∈ Region.ready .any ops listed → GivesIf P ops S oi v a → S w →
      wpAnyZ P ops Q S z f (listed.setIfInBounds i true) (a.put oi.dst v) w → wpAnyZ P ops Q S z (f + 1) listed a w := by
  intro f
  induction f with
  | zero =>
    intro listed a w _ _ hr hy hS H
    refine ⟨fun h => (by rw [h] at hr; cases hr), fun j hj => ?_⟩
    by_cases hji : j = i
    · rw [hji]; exact hy.wpOp hi hS ⟨fun _ => hS, H⟩
    · have h1 := ready_mono hj hji
      rw [H.1] at h1
      cases h1
  | succ f ih =>
    intro listed a w inv hfree hr hy hS H
    refine ⟨fun h => (by rw [h] at hr; cases hr), fun j hj => ?_⟩
    by_cases hji : j = i
    · rw [hji]; exact hy.wpOp hi hS ⟨fun _ => hS, H⟩
    · have h1 := H.2 j (ready_mono hj hji)
      obtain ⟨hjun, oj, hoj, hall⟩ := mem_ready.1 hj
      have hiun := (mem_ready.1 hr).1
      have hjz : j ≠ z := by
        intro e
        rw [e] at hj
        exact sink_blocks hs inv (by omega) (z - i) i (Nat.le_refl _) hiz hiun hj
      have hjs := (Array.getElem?_eq_some_iff.1 hoj).1
      have hnot : ∀ e ∈ oj.after, Region.binds .any e = true → e.on ≠ i := fun e he hb heq => by
        have h2 := hall e he hb
        rw [heq, getD_both hiun] at h2
        cases h2
      have h2 := wpOp_putG hoj (hfree j oj hoj hji hjun hnot) (fun cs b => hsel i oi cs b hi) (fun cs b => hsel j oj cs b hoj) hQ hy h1
      refine wpOp_mono (fun a' w' h3 => ⟨h3.2.1, ih (listed.setIfInBounds j true) a' w' (inv.set hj (by omega)) (fun k ok hk hki hun hno => ?_) (ready_mono hr (Ne.symm hji)) h3.1 (h3.2.1 hjz) ?_⟩) h2
      · refine hfree k ok hk hki ?_ hno
        by_cases hjk : j = k
        · rw [← hjk]; exact hjun
        · rw [getD_set_ne true hjk] at hun; exact hun
      · rw [Array.setIfInBounds_comm _ _ hji]
        exact h3.2.2
def MixZ (P : Program) (ds : List Deferred) (all : List Oper) (S : World → Prop) (K : List Value → World → Prop) : List (Bool × Nat) → List Value → World → Prop
  | [], l, w => K l w
  | (true, i) :: s, l, w => ∃ o, all[i]? = some o ∧ Mix1 P all S (MixZ P ds all S K s) o l w
  | (false, i) :: s, l, w => ∃ o, all[i]? = some o ∧ Ops P ds all (fun l' w' => (s ≠ [] → S w') ∧ MixZ P ds all S K s l' w') (fun _ _ _ => False) [o] l w
theorem mixz_nil (h : K l w) : MixZ P ds all S K [] l w := h
theorem mixz_p (ho : all[i]? = some o) (h : Mix1 P all S (MixZ P ds all S K s) o l w) : MixZ P ds all S K ((true, i) :: s) l w := ⟨o, ho, h⟩
theorem mixz_o (ho : all[i]? = some o) (h : Ops P ds all (fun l' w' => (s ≠ [] → S w') ∧ MixZ P ds all S K s l' w') (fun _ _ _ => False) [o] l w) : MixZ P ds all S K ((false, i) :: s) l w := ⟨o, ho, h⟩
/-- The schedule: all but the last are before it. -/
def mixZB (ops : Array Oper) (z : Nat) : List (Bool × Nat) → Array Bool → Bool
  | [], listed => (Region.ready .any ops listed).isEmpty
  | (true, i) :: s, listed => decide (i < z) && (Region.ready .any ops listed).contains i && Region.free .any ops listed i && mixZB ops z s (listed.setIfInBounds i true)
  | (false, i) :: s, listed => ((decide (i < z) && !s.isEmpty) || (decide (i = z) && s.isEmpty)) && decide (Region.ready .any ops listed = [i]) && mixZB ops z s (listed.setIfInBounds i true)
theorem mixz_any {z : Nat} (hsel : Region.noSelect all.toArray = true) (hs : Region.sinkB .any all.toArray z = true) (hz : z + 1 = all.toArray.size) : ∀ (s : List (Bool × Nat)) (listed : Array Bool) (l : List Value) (w : World), (s ≠ [] → HeadInv .any all.toArray z listed) → mixZB all.toArray z s listed = true → (s ≠ [] → S w) → MixZ P ds all S K s l w →
    wpAnyZ P all.toArray (fun e a w' => a.defers = ds ∧ seqQ K (fun _ _ _ => False) e a.tmps.toList w') S z s.length listed ⟨l.toArray, ds⟩ w := by
  intro s
  induction s with
  | nil => intro listed l w _ hB _ h; exact ⟨by simpa [mixZB] using hB, rfl, h⟩
  | cons x s IH =>
    obtain ⟨b, i⟩ := x
    cases b
    · rintro listed l w inv hB hS ⟨o, ho, h⟩
      simp only [mixZB, Bool.and_eq_true, Bool.or_eq_true, decide_eq_true_eq] at hB
      obtain ⟨⟨hiz, hr⟩, hB'⟩ := hB
      have hready : i ∈ Region.ready .any all.toArray listed := by rw [hr]; simp
      have hlast : s ≠ [] → i < z := fun h => by
        rcases hiz with h1 | h1
        · exact h1.1
        · exact absurd (by simpa using h1.2) h
      refine ⟨fun h0 => (by rw [hr] at h0; cases h0), fun k hk => ?_⟩
      have hki : k = i := by rw [hr] at hk; simpa using hk
      rw [hki]
      unfold Ops wpList at h
      unfold wpOp
      rw [List.getElem?_toArray, ho]
      simp only
      have hne : i ≠ z → s ≠ [] := fun h1 => by
        rcases hiz with h2 | h2
        · intro h3; rw [h3] at h2; simp at h2
        · exact absurd h2.1 h1
      have ih : ∀ (a : Act) w', (a.defers = ds ∧ (s ≠ [] → S w') ∧ MixZ P ds all S K s a.tmps.toList w') → ((i ≠ z → S w') ∧ wpAnyZ P all.toArray (fun e a w' => a.defers = ds ∧ seqQ K (fun _ _ _ => False) e a.tmps.toList w') S z s.length (listed.setIfInBounds i true) a w') := by
        rintro ⟨t, d⟩ w' ⟨hd, hS', h2⟩
        simp only at hd
        subst hd
        exact ⟨fun h1 => hS' (hne h1), IH _ _ _ (fun h1 => (inv (by simp)).set hready (hlast h1)) hB' hS' h2⟩
      have hq : ∀ (e : Exit) (a : Act) w', e ≠ .normal → Exit.then (fun (a : Act) w' => a.defers = ds ∧ (s ≠ [] → S w') ∧ MixZ P ds all S K s a.tmps.toList w') (fun _ a _ => a.defers = ds ∧ False) e a w' → (a.defers = ds ∧ seqQ K (fun _ _ _ => False) e a.tmps.toList w') := by
        intro e a w' he h
        cases e <;> first | exact absurd rfl he | exact h.2.elim
      split
      · rename_i hw
        rw [if_pos hw] at h
        rcases h with h | ⟨h1, a1, w1, h2⟩
        · exact .inl (Oper.wp_mono ih (wp_alt hq h))
        · exact .inr ⟨h1, a1, w1, hq _ _ _ (by simp) h2⟩
      · rename_i hw
        rw [if_neg hw] at h
        exact ih _ _ h
    · rintro listed l w inv hB hS ⟨o, ho, v, hv, hK⟩
      simp only [mixZB, Bool.and_eq_true, decide_eq_true_eq] at hB
      obtain ⟨⟨⟨hiz, hr⟩, hf⟩, hB'⟩ := hB
      have hi : all.toArray[i]? = some o := by rw [List.getElem?_toArray]; exact ho
      have hready : i ∈ Region.ready .any all.toArray listed := by simpa using hr
      refine Z_first (oi := o) (v := v) hi (Region.noSelect_spec hsel) (fun _ _ _ h => h.2.elim) hs hz hiz s.length listed _ w (inv (by simp)) (Region.free_spec hi hf) hready ?_ (hS (by simp)) ?_
      · rcases hv with ⟨h1, h2⟩ | ⟨h1, h2⟩
        · exact .inl ⟨h1, by rw [rho_eq]; exact h2⟩
        · exact .inr ⟨h1, h2⟩
      · rw [put_putL]
        exact IH _ _ _ (fun _ => (inv (by simp)).set hready hiz) hB' (fun _ => hS (by simp)) hK
theorem run_mixS {Q : Post} {cs : List Code} {n : Nat} (z : Nat) (s : List (Bool × Nat)) (S : World → Prop) (hm : P.follows .mixedOrders = true)
    (hB : (Region.noSelect all.toArray && decide (s.length = all.length) && decide (z + 1 = all.length) && Region.sinkB .any all.toArray z && mixZB all.toArray z s (Array.replicate all.length false)) = true)
    (h : ∀ w', w' = { w with drawn := w.drawn + 1 } → S w' ∧ MixZ P ds all S (Run P ds cs Q) s l w') : Run P ds (.region n all.toArray true :: cs) Q l w := by
  simp only [Bool.and_eq_true, decide_eq_true_eq] at hB
  obtain ⟨⟨⟨⟨hsel, hlen⟩, hz⟩, hs⟩, hB⟩ := hB
  show Cd P ds _ _ l w
  unfold Cd
  have inv0 : HeadInv .any all.toArray z (Array.replicate all.toArray.size false) :=
    ⟨by simp, fun j oj _ hl => (by rw [getD_replicate_false] at hl; cases hl), fun t _ ht => getD_in (by simpa using ht) (getD_replicate_false _ _)⟩
  refine Go.wp_mono (Q := fun e a w' => a.defers = ds ∧ seqQ (Run P ds cs Q) (fun _ _ _ => False) e a.tmps.toList w') (wp_region_any hm ?_) ?_
  · have := mixz_any (S := S) (K := Run P ds cs Q) (P := P) (ds := ds) hsel hs (by simpa using hz) s _ l { w with drawn := w.drawn + 1 } (fun _ => by simpa using inv0) hB (fun _ => (h _ rfl).1) (h _ rfl).2
    rw [hlen] at this
    have h2 := any_of_Z _ _ _ _ this
    simpa using h2
  · rintro e a w' ⟨hd, h2⟩
    cases e <;> first | exact ⟨hd, h2⟩ | exact h2.elim
theorem run_mixZ {Q : Post} {cs : List Code} {n : Nat} {w0 : World} {SS : List Nat} {es : List Ent} (z : Nat) (s : List (Bool × Nat)) (H : Hp w0 w SS es) (idx : List Nat) (hm : P.follows .mixedOrders = true) (hnd : idx.Nodup)
    (hB : (Region.noSelect all.toArray && decide (s.length = all.length) && decide (z + 1 = all.length) && Region.sinkB .any all.toArray z && mixZB all.toArray z s (Array.replicate all.length false)) = true)
    (h : ∀ w', w' = { w with drawn := w.drawn + 1 } → MixZ P ds all (fun wz => Hp w0 wz SS (idx.map fun i => es.getD i (none, 0, []))) (Run P ds cs Q) s l w') : Run P ds (.region n all.toArray true :: cs) Q l w := by
  simp only [Bool.and_eq_true, decide_eq_true_eq] at hB
  obtain ⟨⟨⟨⟨hsel, hlen⟩, hz⟩, hs⟩, hB⟩ := hB
  show Cd P ds _ _ l w
  unfold Cd
  have inv0 : HeadInv .any all.toArray z (Array.replicate all.toArray.size false) :=
    ⟨by simp, fun j oj _ hl => (by rw [getD_replicate_false] at hl; cases hl), fun t _ ht => getD_in (by simpa using ht) (getD_replicate_false _ _)⟩
  refine Go.wp_mono (Q := fun e a w' => a.defers = ds ∧ seqQ (Run P ds cs Q) (fun _ _ _ => False) e a.tmps.toList w') (wp_region_any hm ?_) ?_
  · have := mixz_any (S := fun wz => Hp w0 wz SS (idx.map fun i => es.getD i (none, 0, []))) (K := Run P ds cs Q) (P := P) (ds := ds) hsel hs (by simpa using hz) s _ l { w with drawn := w.drawn + 1 } (fun _ => by simpa using inv0) hB (fun _ => H.drew.pick idx hnd) (h _ rfl)
    rw [hlen] at this
    have h2 := any_of_Z _ _ _ _ this
    simpa using h2
  · rintro e a w' ⟨hd, h2⟩
    cases e <;> first | exact ⟨hd, h2⟩ | exact h2.elim
end mix
end Go.Proofs.Ytbninklfoogmdaa
