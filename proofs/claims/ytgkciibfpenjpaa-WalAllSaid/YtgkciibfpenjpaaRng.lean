/-
  Regions that draw their order, in whatever frame; a function's end; a round of a range over a function, and the statement.
-/
import Derived.Test.YtgkciibfpenjpaaRnd
namespace Go.Proofs.Ytgkciibfpenjpaa
open Go Go.RowKit
section conv
variable {ro : Option Nat} {n : Nat} {P : Program} {ops : Array Oper} {md : Region.Mode} {Q Q' : Exit → Act → World → Prop}
theorem wpRR {o : Oper} {a : Act} {w : World} {next next' : Act → World → Prop} (hn : ∀ a w, next a w → next' a w) (hq : ∀ a w, ¬ Q .outgrown a w) (hqq : ∀ e a w, e ≠ .normal → Q e a w → Q' e a w) (hd : noDef o = true)
    (h : o.wp P a w next Q ∨ (o.asks P a w ∧ LetsOut Q)) : o.wpIn (FR ro) n P a w next' Q' := by
  rcases h with h | ⟨_, a1, w1, h2⟩
  · have h3 := wpR (ro := ro) (n := n) hd h
    refine ⟨h3.1, ?_⟩
    have h4 := h3.2
    generalize (o.semAt (FR ro).round a.eval).run P w = r at h4 ⊢
    cases r with
    | ok x w' =>
      cases x <;> first
        | exact hn _ _ h4
        | exact h4
        | exact ⟨h4.1, CallsIn.mono h4.2 (fun e w'' he => by
            cases e with
            | returned v => exact hn _ _ he
            | panicked ch => exact hqq _ _ _ (by simp) he
            | outgrown => exact absurd he.choose_spec.choose_spec (hq _ _))⟩
        | exact ⟨h4.1, RowsIn.mono h4.2 (fun v w'' he => hn _ _ he)⟩
        | exact ⟨h4.1, RoundIn.mono h4.2 (fun e w'' he => by
            cases e with
            | returned v => exact hn _ _ he
            | panicked ch => exact hqq _ _ _ (by simp) he
            | outgrown => exact absurd he.choose_spec.choose_spec (hq _ _))⟩
    | halt x w' => cases x <;> first | exact hqq _ _ _ (by simp) h4 | exact h4
  · exact absurd h2 (hq _ _)
theorem wpOpR {i : Nat} {a : Act} {w : World} {next next' : Act → World → Prop} (hn : ∀ a w, next a w → next' a w) (hq : ∀ a w, ¬ Q .outgrown a w) (hqq : ∀ e a w, e ≠ .normal → Q e a w → Q' e a w) (hd : ∀ o, ops[i]? = some o → noDef o = true)
    (h : wpOp P ops Q i next a w) : wpOpIn (FR ro) n P ops Q' i next' a w := by
  unfold wpOp at h
  unfold wpOpIn
  split
  · rename_i hi; rw [hi] at h; exact hn _ _ h
  · rename_i o hi
    rw [hi] at h
    simp only at h
    split
    · rename_i hw; rw [if_pos hw] at h; exact wpRR hn hq hqq (hd o hi) h
    · rename_i hw; rw [if_neg hw] at h; exact ⟨fun _ _ => trivial, hn _ _ h⟩
theorem wpAnyR (hq : ∀ a w, ¬ Q .outgrown a w) (hqq : ∀ e a w, Q e a w → Q' e a w) (hd : ∀ (i : Nat) (o : Oper), ops[i]? = some o → noDef o = true) : ∀ (f : Nat) (listed : Array Bool) (a : Act) (w : World), wpAny P md ops Q f listed a w → wpAnyIn (FR ro) n P md ops Q' f listed a w
  | 0, _, _, _, h => ⟨h.1, hqq _ _ _ h.2⟩
  | f + 1, _, _, _, h => ⟨fun hr => hqq _ _ _ (h.1 hr), fun i hi => wpOpR (fun a w h => wpAnyR hq hqq hd f _ a w h) hq (fun e a w _ h => hqq e a w h) (hd i) (h.2 i hi)⟩
theorem noDef_all {os : List Oper} (hd : os.all noDef = true) : ∀ (i : Nat) (o : Oper), os.toArray[i]? = some o → noDef o = true := by
  intro i o h
  rw [List.getElem?_toArray] at h
  exact List.all_eq_true.1 hd o (List.mem_of_getElem? h)
theorem wpAny_still_tail {a : Act} {w : World} {l : List Oper} (n : Nat) (hB : Region.lexTailB .any l.toArray n = true)
    (h : wpStill P l.toArray w (fun a' => wpList P l.toArray Q (l.drop n) a' w) (l.take n) a) : wpAny P .any l.toArray Q l.toArray.size (Array.replicate l.toArray.size false) a w := by
  simp only [Region.lexTailB, Bool.and_eq_true, decide_eq_true_eq] at hB
  obtain ⟨⟨⟨⟨hsel, hn⟩, hs⟩, hc⟩, hlex⟩ := hB
  have hn' : n < l.length := by simpa using hn
  have htl : (l.take n).length = n := by simp; omega
  have hdl : (l.drop n).length = l.toArray.size - n := by simp
  have inv0 : HeadInv .any l.toArray n (Array.replicate l.toArray.size false) :=
    ⟨by simp, fun j oj _ hl => (by rw [getD_replicate_false] at hl; cases hl), fun t _ ht => getD_in (by simpa using ht) (getD_replicate_false _ _)⟩
  have H := wpAnyL_lex (md := .any) (g := l.toArray.size - n) hsel hs hc hn (l.take n) 0 _ a (fun j hj => by
    have hj' : j < n := by rw [htl] at hj; exact hj
    simp [hj']) (by simpa using htl) inv0 (by rw [htl]; exact hlex) h
  have := wpAny_of_head (Q' := Q) (g := l.toArray.size - n) (fun listed a' hL => by
    have := wpAny_of_seq (md := .any) (Q' := Q) (l.drop n) n listed a' w (fun j => by simp [List.getElem?_drop]) (by rw [hdl]; exact hL.1) hL.2
    rwa [hdl] at this) _ _ _ H
  rw [htl, show n + (l.toArray.size - n) = l.toArray.size by omega] at this
  exact this
end conv
namespace Rn
section code
variable {f : FuncId} {ro : Option Nat} {P : Program} {ds : List Deferred} {Q : PostD} {l : List Value} {w : World} {cs : List Code}
theorem any_run {n : Nat} {os : List Oper} (hm : P.follows .mixedOrders = true) (hd : os.all noDef = true) {Q1 : Exit → Act → World → Prop} (hq : ∀ a w, ¬ Q1 .outgrown a w) (hqq : ∀ e a w, Q1 e a w → seqQ (RunX f ro P cs Q) Q e a.defers a.tmps.toList w)
    (h : wpAny P .any os.toArray Q1 os.toArray.size (Array.replicate os.toArray.size false) ⟨l.toArray, ds⟩ { w with drawn := w.drawn + 1 }) : Run (f := f) (ro := ro) P ds (.region n os.toArray true :: cs) Q l w :=
  wpF_of (wpIn_region_any hm (wpAnyR hq hqq (noDef_all hd) _ _ _ _ h))
theorem run_tail {n : Nat} {os : List Oper} (k : Nat) (hm : P.follows .mixedOrders = true) (hB : Region.lexTailB .any os.toArray k = true) (hd : os.all noDef = true) (hq : ∀ l w, ¬ Q .outgrown ds l w)
    (h : ∀ w', w' = { w with drawn := w.drawn + 1 } → Still P ds os w' (fun l' => Ops P ds os (fun l w => Run (f := f) (ro := ro) P ds cs Q l w) (QO Q ds) (os.drop k) l' w') (os.take k) l) : Run (f := f) (ro := ro) P ds (.region n os.toArray true :: cs) Q l w := by
  refine any_run (Q1 := Exit.then (fun a w' => a.defers = ds ∧ Run (f := f) (ro := ro) P ds cs Q a.tmps.toList w') (fun e a w' => a.defers = ds ∧ QO Q ds e a.tmps.toList w')) hm hd (fun a w h => hq _ _ h.2) ?_ (wpAny_still_tail k hB ?_)
  · intro e a w h
    cases e with
    | normal => show RunX f ro P cs Q a.defers a.tmps.toList w; rw [h.1]; exact h.2
    | _ => obtain ⟨h1, h2⟩ := h; show Q _ a.defers a.tmps.toList w; rw [h1]; exact h2
  · have h' := h _ rfl
    unfold Still at h'
    refine still_mono ?_ _ _ h'
    rintro ⟨t, d⟩ ⟨hd, h2⟩
    simp only at hd
    subst hd
    exact h2
theorem run_mixH {n : Nat} {all : List Oper} {w0 : World} {SS : List Nat} {es : List Ent} (s : List (Bool × Nat)) (H : Hp w0 w SS es) (idx : List Nat) (hm : P.follows .mixedOrders = true) (hnd : idx.Nodup)
    (hB : (Region.noSelect all.toArray && decide (s.length = all.length) && mixB all.toArray s (Array.replicate all.length false)) = true) (hd : all.all noDef = true)
    (h : ∀ w', w' = { w with drawn := w.drawn + 1 } → Mixes P ds all (fun wz => Hp w0 wz SS (idx.map fun i => es.getD i (none, 0, []))) (fun l w => Run (f := f) (ro := ro) P ds cs Q l w) s l w') : Run (f := f) (ro := ro) P ds (.region n all.toArray true :: cs) Q l w := by
  simp only [Bool.and_eq_true, decide_eq_true_eq] at hB
  obtain ⟨⟨hsel, hlen⟩, hB⟩ := hB
  refine any_run (Q1 := fun e a w' => a.defers = ds ∧ Go.Proofs.Ytgkciibfpenjpaa.seqQ (fun l w => Run (f := f) (ro := ro) P ds cs Q l w) (fun _ _ _ => False) e a.tmps.toList w') hm hd (fun a w h => h.2) ?_ ?_
  · intro e a w h
    cases e with
    | normal => show RunX f ro P cs Q a.defers a.tmps.toList w; rw [h.1]; exact h.2
    | _ => exact h.2.elim
  · have := mix_any hsel s _ l _ hB (H.drew.pick idx hnd) (h _ rfl)
    rw [hlen] at this
    exact wpAny_of_held _ _ _ _ (by simpa using this)
theorem run_mixZ {n : Nat} {all : List Oper} {w0 : World} {SS : List Nat} {es : List Ent} (z : Nat) (s : List (Bool × Nat)) (H : Hp w0 w SS es) (idx : List Nat) (hm : P.follows .mixedOrders = true) (hnd : idx.Nodup)
    (hB : (Region.noSelect all.toArray && decide (s.length = all.length) && decide (z + 1 = all.length) && Region.sinkB .any all.toArray z && mixZB all.toArray z s (Array.replicate all.length false)) = true) (hd : all.all noDef = true)
    (h : ∀ w', w' = { w with drawn := w.drawn + 1 } → MixZ P ds all (fun wz => Hp w0 wz SS (idx.map fun i => es.getD i (none, 0, []))) (fun l w => Run (f := f) (ro := ro) P ds cs Q l w) s l w') : Run (f := f) (ro := ro) P ds (.region n all.toArray true :: cs) Q l w := by
  simp only [Bool.and_eq_true, decide_eq_true_eq] at hB
  obtain ⟨⟨⟨⟨hsel, hlen⟩, hz⟩, hs⟩, hB⟩ := hB
  have inv0 : HeadInv .any all.toArray z (Array.replicate all.toArray.size false) :=
    ⟨by simp, fun j oj _ hl => (by rw [getD_replicate_false] at hl; cases hl), fun t _ ht => getD_in (by simpa using ht) (getD_replicate_false _ _)⟩
  refine any_run (Q1 := fun e a w' => a.defers = ds ∧ Go.Proofs.Ytgkciibfpenjpaa.seqQ (fun l w => Run (f := f) (ro := ro) P ds cs Q l w) (fun _ _ _ => False) e a.tmps.toList w') hm hd (fun a w h => h.2) ?_ ?_
  · intro e a w h
    cases e with
    | normal => show RunX f ro P cs Q a.defers a.tmps.toList w; rw [h.1]; exact h.2
    | _ => exact h.2.elim
  · have := mixz_any (S := fun wz => Hp w0 wz SS (idx.map fun i => es.getD i (none, 0, []))) (K := fun l w => Run (f := f) (ro := ro) P ds cs Q l w) (P := P) (ds := ds) hsel hs (by simpa using hz) s _ l { w with drawn := w.drawn + 1 } (fun _ => by simpa using inv0) hB (fun _ => H.drew.pick idx hnd) (h _ rfl)
    rw [hlen] at this
    have h2 := any_of_Z _ _ _ _ this
    simpa using h2
/-! A function's end. -/
def takes (P : Program) : List Deferred → World → (World → Prop) → Prop
  | [], w, K => K w
  | d :: ds, w, K => ∃ r w', d.target = .collected r ∧ (Instr.takeDeferred r).run P w = .ok [] w' ∧ takes P ds w' K
theorem takes_mono {P : Program} {K K' : World → Prop} (hk : ∀ w, K w → K' w) : ∀ (ds : List Deferred) (w : World), takes P ds w K → takes P ds w K'
  | [], _, h => hk _ h
  | _ :: ds, _, ⟨r, w', h1, h2, h3⟩ => ⟨r, w', h1, h2, takes_mono hk ds w' h3⟩
/-- What the end of a function's code must show. -/
def fin (P : Program) (fn : Func) (R : Value → World → Prop) (RP : Chain → World → Prop) : PostD
  | .normal, ds, l, w => takes P ds w fun w => ∃ v, (results fn l.toArray).run P w = .ok v w ∧ R v w
  | .ret, ds, l, w => takes P ds w fun w => ∃ v, (results fn l.toArray).run P w = .ok v w ∧ R v w
  | .panic ch, ds, _, w => takes P ds w (RP ch)
  | _, _, _, _ => False
theorem leaves_of {P : Program} {fn : Func} {tmps : Array Value} {R : Ending → World → Prop} {u : FrameMode} (hu : u ≠ .run) {K : World → Prop} (hK : ∀ w, K w → LeavesIn (FR none) 0 P fn tmps R [] u w) : ∀ (ds : List Deferred) (w : World), takes P ds w K → LeavesInM (FR none) 0 P fn tmps R ds u w
  | [], w, h => hK w h
  | _ :: ds, _, ⟨r, w', h1, h2, h3⟩ => ⟨hu, .inl ⟨r, w', h1, h2, leaves_of hu hK ds w' h3⟩⟩
/-- As Code.wpIn, in a frame of the function alone. -/
theorem calls_of {fn : Func} {c : Code} {args : Array Value} {R : Ending → World → Prop} (hf : P.funcs[f]? = some fn) (hb : fn.body = some c)
    (h : wpF f none P c (bodyPostM (FR none) 0 P fn R) { tmps := args ++ Array.replicate (fn.ntmps - args.size) undef, defers := [] } w) : Calls P f args w R := by
  refine (callsIn_wide (n := 0)).1 ⟨trivial, fun cs _ => ?_⟩
  let b : Frame := { (default : Frame) with fn := f, kind := .normal, roundOf := none }
  have henter : Frame.enter P f args .normal =
      b.atR { tmps := args ++ Array.replicate (fn.ntmps - args.size) undef, defers := [] } [.code c] := by
    simp [Frame.enter, Frame.atR, hf, hb, b]
  have hw : ∀ m, Machine.fenced P Fence.wide m := fenced_wide P
  have hst : ∀ (ds : List Deferred) (u : FrameMode) (w : World) (fr : Frame), fr.mode = u → fr.defers = ds → fr.tmps = fr.tmps → fr.fn = f → fr.kind = .normal → LeavesInM (FR none) 0 P fn fr.tmps R ds u w →
      ∃ e w' fr', R e w' ∧ ComesIn (Machine.fenced P Fence.wide) P (lone fr cs w) (lone fr' cs w') e ∧ fr'.fn = fr.fn ∧ fr'.leaving P w' e := by
    intro ds u w fr hu hd _ hff hk h
    exact leaves_stepsInM (F := FR none) (n := 0) ds u w fr cs hu hd rfl (by rw [hff]; exact hf) hk trivial (roomR _ _) h
  obtain ⟨e, a', w', hq, harr⟩ := h b [] cs rfl rfl
  rw [← henter] at harr
  cases e with
  | normal =>
    obtain ⟨e', w'', fr', hR, hs, hfn, hl⟩ := hst a'.defers .returning w' { b.atR a' [] with mode := .returning } rfl rfl rfl rfl rfl hq
    exact ⟨e', w'', fr', hR, ComesIn.of_steps (StepsIn.trans harr (.one (hw _) (stepR_end rfl))) hs, hfn, hl⟩
  | ret =>
    obtain ⟨todo, hs₀⟩ := harr.1 rfl
    obtain ⟨e', w'', fr', hR, hs, hfn, hl⟩ := hst a'.defers .returning w' { b.atR a' todo with mode := .returning } rfl rfl rfl rfl rfl hq
    exact ⟨e', w'', fr', hR, ComesIn.of_steps hs₀ hs, hfn, hl⟩
  | panic chain =>
    obtain ⟨todo, hs₀⟩ := harr
    obtain ⟨e', w'', fr', hR, hs, hfn, hl⟩ := hst a'.defers (.panicking chain) w' { b.atR a' todo with mode := .panicking chain } rfl rfl rfl rfl rfl hq
    exact ⟨e', w'', fr', hR, ComesIn.of_steps hs₀ hs, hfn, hl⟩
  | exit id => exact hq.elim
  | goto l => exact hq.elim
  | outgrown => exact ⟨.outgrown, w', b, hq, harr.resolve_left (by simp [b]), rfl, trivial⟩
theorem does_of {fn : Func} {c : Code} {args : List Value} {R : Value → World → Prop} {RP : Chain → World → Prop} {n : Nat} (hf : P.funcs[f]? = some fn) (hn : fn.ntmps = n) (hb : fn.body = some c)
    (h : Run (f := f) (ro := none) P [] [c] (fin P fn R RP) (args ++ List.replicate (n - args.length) undef) w) : DoesP P f args.toArray w R RP := by
  refine calls_of hf hb ?_
  have e : (args.toArray ++ Array.replicate (fn.ntmps - args.toArray.size) undef) = (args ++ List.replicate (n - args.length) undef).toArray := by
    rw [hn]; simp
  rw [e]
  refine wpF_mono h ?_
  intro e a w' hq
  have e2 : a.tmps.toList.toArray = a.tmps := by simp
  cases e with
  | normal =>
    refine leaves_of (by simp) (fun w hw => ?_) _ _ hq
    obtain ⟨v, h1, h2⟩ := hw
    rw [e2] at h1
    exact ⟨v, h1, h2⟩
  | ret =>
    refine leaves_of (by simp) (fun w hw => ?_) _ _ hq
    obtain ⟨v, h1, h2⟩ := hw
    rw [e2] at h1
    exact ⟨v, h1, h2⟩
  | panic ch => exact leaves_of (by simp) (fun w hw => hw) _ _ hq
  | exit id => exact hq.elim
  | goto l => exact hq.elim
  | outgrown => exact hq.elim
end code
end Rn
end Go.Proofs.Ytgkciibfpenjpaa
