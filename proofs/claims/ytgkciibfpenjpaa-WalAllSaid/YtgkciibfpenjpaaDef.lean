/-
  A deferred closure that recovers; a function's end where one is deferred.
-/
import Derived.Test.YtgkciibfpenjpaaRng
namespace Go.Proofs.Ytgkciibfpenjpaa
open Go Go.RowKit
section
variable {P : Program} {k : FuncId} {w : World}
abbrev dfr (k : FuncId) (vs : List Value) : Deferred := { target := .fn (.func k) vs.toArray, args := #[] }
/-- What recover hands back, and how the frame below goes on. -/
def Rec (u : FrameMode) (v : Value) (u' : FrameMode) : Prop :=
  (u = .returning ∧ v = .nilIface ∧ u' = .returning) ∨ (∃ x, u = .panicking [{ v := x, recovered := false }] ∧ v = x ∧ u' = .panicking [{ v := x, recovered := true }])
theorem Rec.settle {u : FrameMode} {v : Value} {u' : FrameMode} (h : Rec u v u') : settle u' = .returning := by
  rcases h with ⟨_, _, rfl⟩ | ⟨x, _, _, rfl⟩ <;> rfl
theorem Rec.run {u : FrameMode} {v : Value} {u' : FrameMode} (h : Rec u v u') : u ≠ .run := by
  rcases h with ⟨rfl, _, _⟩ | ⟨x, rfl, _, _⟩ <;> simp
theorem ex_recover_run (ρ : Operand → Value) (d : Option Tmp) (ty : TypeId) (pos : String) (af : Array Edge) (ats : Array TypeId) : (execOp ρ ⟨d, .call { callee := .builtin .recover, args := #[], argTypes := ats }, ty, pos, af, none⟩).run P w = .ok .recover w := by
  simp [execOp, resolve, invoke, builtin]
theorem recovers {fn : Func} {n m : Nat} {rest : Code} {d1 d2 : Tmp} {t1 t2 : TypeId} {p1 p2 : String} {a1 a2 : Array Edge} {args : List Value} {u u' : FrameMode} {v : Value} {R : Value → World → Prop} (hf : P.funcs[k]? = some fn) (hn : fn.ntmps = m)
    (hb : fn.body = some (.seq (.region n #[⟨some d1, .call { callee := .builtin .recover, args := #[], argTypes := #[] }, t1, p1, a1, none⟩, ⟨some d2, .assign (.tmp d1), t2, p2, a2, none⟩] false) rest))
    (hrec : Rec u v u') (hv : nth ((args ++ List.replicate (m - args.length) undef).set d1 v) d1 = some v) (h : Run P [] [rest] (fin P fn R) (((args ++ List.replicate (m - args.length) undef).set d1 v).set d2 v) w) :
    CallsDIn (FR none) 0 P k args.toArray u w fun e u1 w' => ∃ r, e = .returned r ∧ u1 = u' ∧ R r w' := by
  refine ⟨trivial, fun c₀ cs hu _ => ?_⟩
  show ∃ e u1 w' fr, _ ∧ ComesIn (Machine.fenced P Fence.wide) P _ _ e ∧ _ ∧ _ ∧ _
  let b : Frame := { (default : Frame) with fn := k, kind := .deferred }
  have e1 : (args.toArray ++ Array.replicate (fn.ntmps - args.toArray.size) undef) = (args ++ List.replicate (m - args.length) undef).toArray := by
    rw [hn]; simp
  have henter : Frame.enter P k args.toArray .deferred =
      b.at ⟨(args ++ List.replicate (m - args.length) undef).toArray, []⟩ [.code (.seq (.region n #[⟨some d1, .call { callee := .builtin .recover, args := #[], argTypes := #[] }, t1, p1, a1, none⟩, ⟨some d2, .assign (.tmp d1), t2, p2, a2, none⟩] false) rest)] := by
    have e1' : (args.toArray ++ Array.replicate (m - args.toArray.size) undef) = (args ++ List.replicate (m - args.length) undef).toArray := by simp
    simp [Frame.enter, Frame.at, hf, hb, hn, b]
  have hS : (Code.seq (.region n #[⟨some d1, .call { callee := .builtin .recover, args := #[], argTypes := #[] }, t1, p1, a1, none⟩, ⟨some d2, .assign (.tmp d1), t2, p2, a2, none⟩] false) rest).wpS P
      (fun e a cs' w' => (e = .normal ∨ e = .ret) ∧ a.defers = [] ∧ cs' = { c₀ with mode := u' } :: cs ∧ ∃ r, (results fn a.tmps).run P w' = .ok r w' ∧ R r w') ⟨(args ++ List.replicate (m - args.length) undef).toArray, []⟩ (c₀ :: cs) w := by
    refine wpS_seq (wpS_region ?_)
    generalize hl : args ++ List.replicate (m - args.length) undef = l at hv h ⊢
    have hrest : ∀ cs', cs' = { c₀ with mode := u' } :: cs → wpOpsS P #[⟨some d1, .call { callee := .builtin .recover, args := #[], argTypes := #[] }, t1, p1, a1, none⟩, ⟨some d2, .assign (.tmp d1), t2, p2, a2, none⟩]
        (Exit.thenS (rest.wpS P (fun e a cs' w' => (e = .normal ∨ e = .ret) ∧ a.defers = [] ∧ cs' = { c₀ with mode := u' } :: cs ∧ ∃ r, (results fn a.tmps).run P w' = .ok r w' ∧ R r w')) (fun e a cs' w' => (e = .normal ∨ e = .ret) ∧ a.defers = [] ∧ cs' = { c₀ with mode := u' } :: cs ∧ ∃ r, (results fn a.tmps).run P w' = .ok r w' ∧ R r w')) [1] ((⟨l.toArray, []⟩ : Act).put (some d1) v) cs' w := by
      intro cs' hcs
      have hx : (execOp ((⟨l.toArray, []⟩ : Act).put (some d1) v).eval ⟨some d2, .assign (.tmp d1), t2, p2, a2, none⟩).run P w = .ok (.value v) w := by
        rw [list_put]
        have : (⟨(l.set d1 v).toArray, []⟩ : Act).eval (.tmp d1) = v := eval_of (x := .tmp d1) (by simpa [ev] using hv)
        simp [execOp, this]
      simp only [wpOpsS, List.getElem?_toArray, List.getElem?_cons_succ, List.getElem?_cons_zero, Region.wanted, if_true, hx]
      rw [Oper.upon_value, list_put, list_put]
      refine wpS_of_wp (Go.wp_mono h ?_)
      rintro e ⟨t, d⟩ w' ⟨hd, hq⟩
      simp only at hd
      subst hd
      have fin' : ∀ {e : Exit}, (e = .normal ∨ e = .ret) → (∃ r, (results fn t).run P w' = .ok r w' ∧ R r w') → (e = .normal ∨ e = .ret) ∧ (⟨t, []⟩ : Act).defers = [] ∧ cs' = { c₀ with mode := u' } :: cs ∧ ∃ r, (results fn (⟨t, []⟩ : Act).tmps).run P w' = .ok r w' ∧ R r w' := fun h1 h2 => ⟨h1, rfl, hcs, h2⟩
      cases e with
      | normal => exact fin' (.inl rfl) (by simpa [seqQ, Run, fin] using hq)
      | ret => exact fin' (.inr rfl) (by simpa [seqQ, Run, fin] using hq)
      | exit i => exact hq.elim
      | goto t => exact hq.elim
      | panic ch => exact hq.elim
      | outgrown => exact hq.elim
    show wpOpsS P _ _ [0, 1] _ _ _
    unfold wpOpsS
    simp only [List.getElem?_toArray, List.getElem?_cons_zero, Region.wanted, if_true, ex_recover_run]
    rcases hrec with ⟨h1, h2, h3⟩ | ⟨x, h1, h2, h3⟩
    · have : recoverD (c₀ :: cs) = none := by simp [recoverD, hu, h1]
      rw [this]
      subst h2
      refine hrest _ ?_
      rw [h3, ← h1, ← hu]
    · have : recoverD (c₀ :: cs) = some (x, { c₀ with mode := u' } :: cs) := by simp [recoverD, hu, h1, h3]
      rw [this]
      subst h2
      exact hrest _ rfl
  obtain ⟨e, a', cs', w', hq, harr⟩ := hS b [] rfl rfl
  rw [← henter] at harr
  obtain ⟨hcase, hd, rfl, v', hr, hR⟩ := hq
  rcases hcase with rfl | rfl
  · exact ⟨.returned v', u', w', _, ⟨v', rfl, rfl, hR⟩, comesIn_wide.2 (Steps.trans harr (.one step_end)), rfl, rfl, rfl, hd, fn, hf, hr⟩
  · obtain ⟨todo, hs⟩ := harr
    exact ⟨.returned v', u', w', _, ⟨v', rfl, rfl, hR⟩, comesIn_wide.2 hs, rfl, rfl, rfl, hd, fn, hf, hr⟩
end
namespace Rn
section
variable {f : FuncId} {P : Program} {ds : List Deferred} {Q : PostD} {l : List Value} {w : World} {cs : List Code}
theorem run_defer {n : Nat} {d : Tmp} {k : FuncId} {caps : List Operand} {vs : List Value} {t1 t2 : TypeId} {p1 p2 : String} {a1 a2 : Array Edge} (h1 : evs l caps = some vs) (hn : nth (l.set d (.func (.func k) #[] vs.toArray)) d = some (.func (.func k) #[] vs.toArray))
    (h : Run (f := f) (ro := none) P (dfr k vs :: ds) cs Q (l.set d (.func (.func k) #[] vs.toArray)) w) :
    Run (f := f) (ro := none) P ds (.region n #[⟨some d, .makeFunc (.func k) #[] caps.toArray, t1, p1, a1, none⟩, ⟨none, .defer { callee := .value (.tmp d), args := #[], argTypes := #[] }, t2, p2, a2, none⟩] false :: cs) Q l w := by
  refine wpF_of (wpIn_region_lit (l := [⟨some d, .makeFunc (.func k) #[] caps.toArray, t1, p1, a1, none⟩, ⟨none, .defer { callee := .value (.tmp d), args := #[], argTypes := #[] }, t2, p2, a2, none⟩]) ?_)
  have e1 := ex_makeFunc (P := P) (ty := t1) (w := w) (fn := .func k) (ys := caps) (xs := []) (us := []) rfl h1 (some d) p1 a1 none
  have e2 : (execOp (rho (l.set d (.func (.func k) #[] vs.toArray))) ⟨none, .defer { callee := .value (.tmp d), args := #[], argTypes := #[] }, t2, p2, a2, none⟩).run P w = .ok (.defer (dfr k vs)) w := by
    have : rho (l.set d (.func (.func k) #[] vs.toArray)) (.tmp d) = .func (.func k) #[] vs.toArray := rho_of (by simpa [ev] using hn)
    simp [execOp, resolve, Deferred.ofValue, this]
  refine wpListIn_plain rfl fun K hK => ⟨fun _ _ => trivial, ?_⟩
  rw [Oper.semAt_eq _ _ _ (fun c hc => (by cases hc)), rho_eq, e1]
  refine hK _ _ ?_
  rw [list_put]
  refine wpListIn_plain rfl fun K2 hK2 => ⟨fun _ _ => trivial, ?_⟩
  rw [show ∀ (ρ : Operand → Value) (o : Oper), Oper.semAt (FR none).round ρ o = execOp ρ o from fun ρ o => Oper.semAt_none ρ o, rho_eq, e2]
  refine hK2 _ _ ?_
  exact h
/-- What the end of a function's code must show, where it defers. -/
def endR (R : Value → World → Prop) (RP : Chain → World → Prop) : Ending → World → Prop
  | .returned v, w => R v w
  | .panicked ch, w => RP ch w
  | .outgrown, _ => False
def finD (P : Program) (fn : Func) (R : Value → World → Prop) (RP : Chain → World → Prop) : PostD
  | .normal, ds, l, w => LeavesInM (FR none) 0 P fn l.toArray (endR R RP) ds .returning w
  | .ret, ds, l, w => LeavesInM (FR none) 0 P fn l.toArray (endR R RP) ds .returning w
  | .panic ch, ds, l, w => LeavesInM (FR none) 0 P fn l.toArray (endR R RP) ds (.panicking ch) w
  | _, _, _, _ => False
theorem does_ofD {fn : Func} {c : Code} {args : List Value} {R : Value → World → Prop} {RP : Chain → World → Prop} {n : Nat} (hf : P.funcs[f]? = some fn) (hn : fn.ntmps = n) (hb : fn.body = some c)
    (h : Run (f := f) (ro := none) P [] [c] (finD P fn R RP) (args ++ List.replicate (n - args.length) undef) w) : DoesP P f args.toArray w R RP := by
  refine Calls.mono (R := endR R RP) (calls_of hf hb ?_) (fun e w h => by cases e <;> exact h)
  have e : (args.toArray ++ Array.replicate (fn.ntmps - args.toArray.size) undef) = (args ++ List.replicate (n - args.length) undef).toArray := by
    rw [hn]; simp
  rw [e]
  refine wpF_mono h ?_
  intro e a w' hq
  have e2 : a.tmps.toList.toArray = a.tmps := by simp
  cases e with
  | normal => unfold seqQ RunX finD at hq; simp only [e2] at hq; exact hq
  | ret => unfold seqQ finD at hq; simp only [e2] at hq; exact hq
  | panic ch => unfold seqQ finD at hq; simp only [e2] at hq; exact hq
  | exit id => exact hq.elim
  | goto l => exact hq.elim
  | outgrown => exact hq.elim
theorem finD_ret {fn : Func} {R : Value → World → Prop} {RP : Chain → World → Prop} {v : Value} (h : (results fn l.toArray).run P w = .ok v w) (hR : R v w) : finD P fn R RP .ret [] l w := ⟨v, h, hR⟩
theorem leaves_one {fn : Func} {k : FuncId} {vs : List Value} {R : Value → World → Prop} {RP : Chain → World → Prop} {u u' : FrameMode} {v : Value} (hgo : goFn P k = true) (hrec : Rec u v u')
    (h : CallsDIn (FR none) 0 P k vs.toArray u w fun e u1 w' => ∃ r, e = .returned r ∧ u1 = u' ∧ ∃ v, (results fn l.toArray).run P w' = .ok v w' ∧ R v w') : LeavesInM (FR none) 0 P fn l.toArray (endR R RP) [dfr k vs] u w := by
  refine ⟨hrec.run, .inr ⟨fun hd => (by cases hd), .func k, vs.toArray, k, vs.toArray, rfl, ?_, fun _ _ => trivial, ?_⟩⟩
  · simp [invoke, run_goFn hgo]
  · refine ⟨trivial, fun c cs hu hr => ?_⟩
    obtain ⟨e, u1, w', fr, ⟨r, he, hu1, v', h1, h2⟩, h3⟩ := h.2 c cs hu (roomR _ _)
    refine ⟨e, u1, w', fr, ?_, h3⟩
    rw [he, hu1]
    show LeavesInM _ _ _ _ _ _ [] (Go.settle u') w'
    rw [hrec.settle]
    exact ⟨v', h1, h2⟩
end
end Rn
end Go.Proofs.Ytgkciibfpenjpaa
