/-
  Code walked in whatever frame (a round's of a range over a function, or a plain one), where a function may panic and may bear marks of its loops: the laws on code; a region's laws out of the plain ones; a round; the statement.
-/
import Derived.Test.YtgkciibfpenjpaaMid
import Derived.Test.YtgkciibfpenjpaaFun
import Derived.RangeFuncRecord
import Derived.OrdersIn
import Derived.TacticsIn
import Derived.Recover
namespace Go.Proofs.Ytgkciibfpenjpaa
open Go Go.RowKit
/-! ### Calls that may panic -/
abbrev Chain := List PanicEntry
/-- The call returns, or panics. -/
def DoesP (P : Program) (f : FuncId) (args : Array Value) (w : World) (R : Value → World → Prop) (RP : Chain → World → Prop) : Prop :=
  Calls P f args w fun e w' => match e with | .returned v => R v w' | .panicked ch => RP ch w' | .outgrown => False
theorem Does.p {P : Program} {f : FuncId} {args : Array Value} {w : World} {R : Value → World → Prop} (h : Does P f args w R) : DoesP P f args w R (fun _ _ => False) :=
  Calls.mono h fun e w' ⟨v, he, hR⟩ => by rw [he]; exact hR
theorem DoesP.d {P : Program} {f : FuncId} {args : Array Value} {w : World} {R : Value → World → Prop} {RP : Chain → World → Prop} (h : DoesP P f args w R RP) (hp : ∀ ch w', ¬ RP ch w') : Does P f args w R := by
  refine Calls.mono h fun e w' hh => ?_
  cases e with
  | returned v => exact ⟨v, rfl, hh⟩
  | panicked ch => exact absurd hh (hp _ _)
  | outgrown => exact hh.elim
theorem DoesP.mono {P : Program} {f : FuncId} {args : Array Value} {w : World} {R R' : Value → World → Prop} {RP RP' : Chain → World → Prop} (h : DoesP P f args w R RP) (hr : ∀ v w', R v w' → R' v w') (hp : ∀ ch w', RP ch w' → RP' ch w') : DoesP P f args w R' RP' := by
  refine Calls.mono h fun e w' hh => ?_
  cases e with
  | returned v => exact hr _ _ hh
  | panicked ch => exact hp _ _ hh
  | outgrown => exact hh
section ops
variable {P : Program} {ds : List Deferred} {Q : Post} {K : List Value → World → Prop} {all os : List Oper} {l : List Value} {w w' : World} {op : Op} {ty : TypeId} {pos : String} {af : Array Edge} {d : Tmp} {v : Value}
theorem ops_callP {f : FuncId} {args : Array Value} {R : Value → World → Prop} {RP : Chain → World → Prop} (hx : Ex P l op ty w (.enter f args) w) (hc : DoesP P f args w R RP) (hp : ∀ ch w', RP ch w' → Q (.panic ch) l w')
    (h : ∀ v w', R v w' → Ops P ds all K Q os (l.set d v) w') : Ops P ds all K Q (⟨some d, op, ty, pos, af, none⟩ :: os) l w := by
  refine wpList_plain rfl fun K' hK => ?_
  unfold Oper.wp
  rw [rho_eq, hx, Oper.upon_enter]
  refine Calls.mono hc ?_
  intro e w2 hR
  cases e with
  | returned v => refine hK _ _ ?_; rw [list_put]; exact h v w2 hR
  | panicked ch => exact ⟨rfl, hp ch w2 hR⟩
  | outgrown => exact hR.elim
theorem ops_callP_none {f : FuncId} {args : Array Value} {R : Value → World → Prop} {RP : Chain → World → Prop} (hx : Ex P l op ty w (.enter f args) w) (hc : DoesP P f args w R RP) (hp : ∀ ch w', RP ch w' → Q (.panic ch) l w')
    (h : ∀ v w', R v w' → Ops P ds all K Q os l w') : Ops P ds all K Q (⟨none, op, ty, pos, af, none⟩ :: os) l w := by
  refine wpList_plain rfl fun K' hK => ?_
  unfold Oper.wp
  rw [rho_eq, hx, Oper.upon_enter]
  refine Calls.mono hc ?_
  intro e w2 hR
  cases e with
  | returned v => exact hK _ _ (h v w2 hR)
  | panicked ch => exact ⟨rfl, hp ch w2 hR⟩
  | outgrown => exact hR.elim
end ops

/-! ### The fences -/
def FR (ro : Option Nat) : Fence := { fn := fun _ => True, depth := none, alive := false, round := ro }
section conv
variable {ro : Option Nat} {n : Nat} {P : Program}
theorem callsR {f : FuncId} {args : Array Value} {w : World} {R : Ending → World → Prop} (h : Calls P f args w R) : CallsIn (FR ro) n P f args w R := (callsIn_wide (n := n)).2 h
theorem rowsR {row : String} {args : Array Value} {w : World} {R : Value → World → Prop} (h : Rows P row args w R) : RowsIn (FR ro) n P row args w R :=
  fun c cs _ => let ⟨v, w', r, s⟩ := h c cs; ⟨v, w', r, (stepsIn_wide.2 s : StepsIn (Machine.fenced P Fence.wide) P _ _)⟩
def noDef (o : Oper) : Bool := match o.op with | .defer _ => false | _ => true
theorem noDef_spec {o : Oper} (h : noDef o = true) : ∀ c, o.op ≠ .defer c := by
  intro c hc
  simp [noDef, hc] at h
theorem uponR {o : Oper} {a : Act} {next : Act → World → Prop} {Q : Exit → Act → World → Prop} {r : Result Next} (h : o.upon P a next Q r) : o.uponIn (FR ro) n P a next Q r := by
  cases r with
  | ok x w' =>
    cases x <;> first
      | exact h
      | exact h.elim
      | exact ⟨fun hd => (by cases hd), callsR h⟩
      | exact ⟨fun hd => (by cases hd), rowsR h⟩
  | halt x w' => cases x <;> first | exact h | exact h.elim
theorem wpR {o : Oper} {a : Act} {w : World} {next : Act → World → Prop} {Q : Exit → Act → World → Prop} (hd : noDef o = true) (h : o.wp P a w next Q) : o.wpIn (FR ro) n P a w next Q := by
  refine ⟨fun _ _ => trivial, ?_⟩
  rw [Oper.semAt_eq _ _ _ (noDef_spec hd)]
  exact uponR h
/-- A plain walk of operations is one in whatever frame. -/
theorem wpListR {ops : Array Oper} {Q Q' : Exit → Act → World → Prop} (hq : ∀ a w, ¬ Q .outgrown a w) (hqq : ∀ e a w, e ≠ .normal → Q e a w → Q' e a w) : ∀ (os rest : List Oper) (a : Act) (w : World), os.all noDef = true →
    wpList P ops (Exit.then (wpListIn (FR ro) n P ops Q' rest) Q) os a w → wpListIn (FR ro) n P ops Q' (os ++ rest) a w
  | [], rest, a, w, _, h => h
  | o :: os, rest, a, w, hd, h => by
    rw [List.all_cons, Bool.and_eq_true] at hd
    have ih := wpListR (ops := ops) hq hqq os rest
    unfold wpList at h
    show wpListIn (FR ro) n P ops Q' (o :: (os ++ rest)) a w
    unfold wpListIn
    split
    · rename_i hw
      rw [if_pos hw] at h
      rcases h with h | ⟨_, a1, w1, h2⟩
      · have h3 := wpR (ro := ro) (n := n) hd.1 h
        refine ⟨h3.1, ?_⟩
        have h4 := h3.2
        generalize (o.semAt (FR ro).round a.eval).run P w = r at h4 ⊢
        cases r with
        | ok x w' =>
          cases x <;> first
            | exact ih _ _ hd.2 h4
            | exact h4
            | exact ⟨h4.1, CallsIn.mono h4.2 (fun e w'' he => by
                cases e with
                | returned v => exact ih _ _ hd.2 he
                | panicked ch => exact hqq _ _ _ (by simp) he
                | outgrown => exact absurd he.choose_spec.choose_spec (hq _ _))⟩
            | exact ⟨h4.1, RowsIn.mono h4.2 (fun v w'' he => ih _ _ hd.2 he)⟩
            | exact ⟨h4.1, RoundIn.mono h4.2 (fun e w'' he => by
                cases e with
                | returned v => exact ih _ _ hd.2 he
                | panicked ch => exact hqq _ _ _ (by simp) he
                | outgrown => exact absurd he.choose_spec.choose_spec (hq _ _))⟩
        | halt x w' => cases x <;> first | exact hqq _ _ _ (by simp) h4 | exact h4
      · exact absurd h2 (hq _ _)
    · rename_i hw
      rw [if_neg hw] at h
      exact ⟨fun _ _ => trivial, ih _ _ hd.2 h⟩
end conv

theorem wpList_mono' {P : Program} {ops : Array Oper} {K1 K2 : Act → World → Prop} {Q : Exit → Act → World → Prop} (hK : ∀ a w, K1 a w → K2 a w) : ∀ (os : List Oper) (a : Act) (w : World), wpList P ops (Exit.then K1 Q) os a w → wpList P ops (Exit.then K2 Q) os a w
  | [], a, w, h => hK _ _ h
  | o :: os, a, w, h => by
    unfold wpList at h ⊢
    split
    · rename_i hw
      rw [if_pos hw] at h
      rcases h with h | ⟨h1, a1, w1, h2⟩
      · exact .inl (Oper.wp_mono (fun a w h => wpList_mono' hK os a w h) (wp_alt (fun e a w he h => by cases e <;> first | exact absurd rfl he | exact h) h))
      · exact .inr ⟨h1, a1, w1, h2⟩
    · rename_i hw
      rw [if_neg hw] at h
      exact wpList_mono' hK os _ _ h
/-! ### Code -/
abbrev PostD := Exit → List Deferred → List Value → World → Prop
/-- Code in a frame of function f. -/
def wpF (f : FuncId) (ro : Option Nat) (P : Program) (c : Code) (Q : Exit → Act → World → Prop) (a : Act) (w : World) : Prop :=
  ∀ (b : Frame) (k : List Item) (cs : List Frame), b.roundOf = ro → b.fn = f →
    ∃ e a' w', Q e a' w' ∧ ArrivesIn (Machine.fenced P Fence.wide) P (lone (b.atR a (.code c :: k)) cs w) b k cs e a' w'
section rules
variable {f : FuncId} {ro : Option Nat} {P : Program} {Q : Exit → Act → World → Prop} {a : Act} {w : World}
theorem roomR (ro : Option Nat) (n : Nat) : (FR ro).room n := fun _ h => (by cases h)
theorem wpF_of {c : Code} (h : c.wpIn (FR ro) 0 P Q a w) : wpF f ro P c Q a w := fun b k cs hro _ => h b k cs hro trivial (roomR _ _)
theorem wpF_mono {c : Code} {Q' : Exit → Act → World → Prop} (h : wpF f ro P c Q a w) (hq : ∀ e a w, Q e a w → Q' e a w) : wpF f ro P c Q' a w :=
  fun b k cs hro hb => let ⟨e, a', w', q, r⟩ := h b k cs hro hb; ⟨e, a', w', hq _ _ _ q, r⟩
theorem wpF_skip (h : Q .normal a w) : wpF f ro P .skip Q a w := wpF_of (wpIn_skip h)
theorem wpF_label {l : Nat} (h : Q .normal a w) : wpF f ro P (.label l) Q a w := wpF_of (wpIn_label h)
theorem wpF_exit {id : Nat} (h : Q (.exit id) a w) : wpF f ro P (.exit id) Q a w := wpF_of (wpIn_exit h)
theorem wpF_ret (h : Q .ret a w) : wpF f ro P .ret Q a w := wpF_of (wpIn_ret h)
theorem wpF_seq {x y : Code} (h : wpF f ro P x (Exit.then (wpF f ro P y Q) Q) a w) : wpF f ro P (.seq x y) Q a w := by
  intro b k cs hro hb
  have h0 : ∀ m, Machine.fenced P Fence.wide m := fenced_wide P
  obtain ⟨e, a₁, w₁, hq, harr⟩ := h b (.code y :: k) cs hro hb
  cases e with
  | normal =>
    obtain ⟨e₂, a₂, w₂, hq₂, harr₂⟩ := hq b k cs hro hb
    exact ⟨e₂, a₂, w₂, hq₂, .of_steps (.head (h0 _) stepR_seq harr) harr₂⟩
  | exit id => exact ⟨_, a₁, w₁, hq, .of_steps (.one (h0 _) stepR_seq) (.pass (x := .code y) rfl (fun _ _ => .inl (by simp)) harr)⟩
  | goto l => exact ⟨_, a₁, w₁, hq, .of_steps (.one (h0 _) stepR_seq) (.pass (x := .code y) rfl (fun _ _ => .inl (by simp)) harr)⟩
  | ret => exact ⟨_, a₁, w₁, hq, .of_steps (.one (h0 _) stepR_seq) (.pass (x := .code y) rfl (fun _ _ => .inl (by simp)) harr)⟩
  | panic ch => exact ⟨_, a₁, w₁, hq, .of_steps (.one (h0 _) stepR_seq) (.pass (x := .code y) rfl (fun _ _ => .inl (by simp)) harr)⟩
  | outgrown => exact ⟨_, a₁, w₁, hq, .of_steps (.one (h0 _) stepR_seq) (.pass (x := .code y) rfl (fun _ _ => .inl (by simp)) harr)⟩
theorem wpF_cond {c : Operand} {x y : Code} {t : Bool} (hc : a.eval c = .bool t) (h : wpF f ro P (if t then x else y) Q a w) : wpF f ro P (.cond c x y) Q a w :=
  fun b k cs hro hb => let ⟨e, a', w', q, r⟩ := h b k cs hro hb; ⟨e, a', w', q, .of_steps (.one (fenced_wide P _) (stepR_cond hc)) r⟩
theorem wpF_cond_true {c : Operand} {x y : Code} (hc : a.eval c = .bool true) (h : wpF f ro P x Q a w) : wpF f ro P (.cond c x y) Q a w := wpF_cond hc h
theorem wpF_cond_false {c : Operand} {x y : Code} (hc : a.eval c = .bool false) (h : wpF f ro P y Q a w) : wpF f ro P (.cond c x y) Q a w := wpF_cond hc h
theorem wpF_block {id : Nat} {c : Code} (h : wpF f ro P c (Exit.inBlock id Q) a w) : wpF f ro P (.block id c) Q a w := by
  intro b k cs hro hb
  have h0 : ∀ m, Machine.fenced P Fence.wide m := fenced_wide P
  obtain ⟨e, a₁, w₁, hq, harr⟩ := h b (.inBlock id :: k) cs hro hb
  cases e with
  | normal => exact ⟨.normal, a₁, w₁, hq, .head (h0 _) stepR_block (StepsIn.trans harr (.one (h0 _) stepR_inBlock))⟩
  | exit id' =>
    by_cases hid : id' = id
    · simp only [Exit.inBlock, hid, if_true] at hq
      exact ⟨.normal, a₁, w₁, hq, .head (h0 _) stepR_block (harr.1 k (by simp [exitTo, hid]))⟩
    · simp only [Exit.inBlock, hid, if_false] at hq
      have this : (id == id') = false := by simp; exact fun h => hid h.symm
      have hx : exitTo id' (.inBlock id :: k) = exitTo id' k := by simp [exitTo, this]
      exact ⟨.exit id', a₁, w₁, hq, fun k' hk => .head (h0 _) stepR_block (harr.1 k' (by rw [hx]; exact hk)),
        fun hr' hk => let ⟨k₁, h1, h2⟩ := harr.2 hr' (by rw [hx]; exact hk); ⟨k₁, h1, .head (h0 _) stepR_block h2⟩⟩
  | goto l =>
    have hx : gotoIn l (.inBlock id :: k) = gotoIn l k := by simp [gotoIn]
    exact ⟨_, a₁, w₁, hq, fun k' hk => .head (h0 _) stepR_block (harr.1 k' (by rw [hx]; exact hk)),
      fun hr' hk => let ⟨k₁, h1, h2⟩ := harr.2 hr' (by rw [hx]; exact hk); ⟨k₁, h1, .head (h0 _) stepR_block h2⟩⟩
  | ret => exact ⟨_, a₁, w₁, hq, .of_steps (.one (h0 _) stepR_block) harr⟩
  | panic ch => exact ⟨_, a₁, w₁, hq, .of_steps (.one (h0 _) stepR_block) harr⟩
  | outgrown => exact ⟨_, a₁, w₁, hq, .of_steps (.one (h0 _) stepR_block) harr⟩
theorem wpF_loop {c : Code} (I : Act → World → Prop) (μ : Act → World → Nat) (h₀ : I a w)
    (round : ∀ a w, I a w → wpF f ro P c (Exit.then (fun a' w' => I a' w' ∧ μ a' w' < μ a w) Q) a w) : wpF f ro P (.loop c) Q a w := by
  intro b k cs hro hb
  have hw : ∀ m, Machine.fenced P Fence.wide m := fenced_wide P
  have key : ∀ j a w, μ a w = j → I a w →
      ∃ e a' w', Q e a' w' ∧ ArrivesIn (Machine.fenced P Fence.wide) P (lone (b.atR a (.code c :: .inLoop c :: k)) cs w) b k cs e a' w' := by
    intro j
    induction j using Nat.strongRecOn with
    | _ j ih =>
      intro a w hn hI
      obtain ⟨e, a₁, w₁, hq, harr⟩ := round a w hI b (.inLoop c :: k) cs hro hb
      cases e with
      | normal =>
        obtain ⟨hI₁, hlt⟩ := hq
        obtain ⟨e₂, a₂, w₂, hq₂, harr₂⟩ := ih (μ a₁ w₁) (hn ▸ hlt) a₁ w₁ rfl hI₁
        exact ⟨e₂, a₂, w₂, hq₂, .of_steps (StepsIn.trans harr (.one (hw _) stepR_inLoop)) harr₂⟩
      | exit id => exact ⟨_, a₁, w₁, hq, .pass (x := .inLoop c) rfl (fun _ _ => .inl (by simp)) harr⟩
      | goto l => exact ⟨_, a₁, w₁, hq, .pass (x := .inLoop c) rfl (fun _ _ => .inl (by simp)) harr⟩
      | ret => exact ⟨_, a₁, w₁, hq, .pass (x := .inLoop c) rfl (fun _ _ => .inl (by simp)) harr⟩
      | panic ch => exact ⟨_, a₁, w₁, hq, .pass (x := .inLoop c) rfl (fun _ _ => .inl (by simp)) harr⟩
      | outgrown => exact ⟨_, a₁, w₁, hq, .pass (x := .inLoop c) rfl (fun _ _ => .inl (by simp)) harr⟩
  obtain ⟨e, a', w', hq, harr⟩ := key _ a w rfl h₀
  exact ⟨e, a', w', hq, .of_steps (.one (hw _) stepR_loop) harr⟩
end rules
namespace Rn
def Cd {f : FuncId} {ro : Option Nat} (P : Program) (ds : List Deferred) (c : Code) (Q : PostD) (l : List Value) (w : World) : Prop :=
  wpF f ro P c (fun e a w' => Q e a.defers a.tmps.toList w') ⟨l.toArray, ds⟩ w
def seqQ (K : List Deferred → List Value → World → Prop) (Q : PostD) : PostD
  | .normal, ds, l, w => K ds l w
  | e, ds, l, w => Q e ds l w
/-- These pieces of code, one behind the other. -/
def RunX (f : FuncId) (ro : Option Nat) (P : Program) : List Code → PostD → List Deferred → List Value → World → Prop
  | [], Q => Q .normal
  | c :: cs, Q => fun ds l w => Cd (f := f) (ro := ro) P ds c (seqQ (RunX f ro P cs Q) Q) l w
def Run {f : FuncId} {ro : Option Nat} (P : Program) (ds : List Deferred) (cs : List Code) (Q : PostD) (l : List Value) (w : World) : Prop := RunX f ro P cs Q ds l w
section code
variable {f : FuncId} {ro : Option Nat} {P : Program} {ds : List Deferred} {Q : PostD} {l : List Value} {w : World} {x y : Code} {cs : List Code}
theorem cd_mono {c : Code} {Q' : PostD} (h : Cd (f := f) (ro := ro) P ds c Q l w) (hq : ∀ e ds l w, Q e ds l w → Q' e ds l w) : Cd (f := f) (ro := ro) P ds c Q' l w :=
  wpF_mono h fun e _ w h => hq e _ _ w h
theorem run_nil (h : Q .normal ds l w) : Run (f := f) (ro := ro) P ds [] Q l w := h
theorem run_seq (h : Run (f := f) (ro := ro) P ds (x :: y :: cs) Q l w) : Run (f := f) (ro := ro) P ds (.seq x y :: cs) Q l w := by
  refine wpF_seq (wpF_mono h ?_)
  rintro e ⟨t, d⟩ w' h2
  cases e with
  | normal => exact wpF_mono h2 (fun e a w h => by cases e <;> exact h)
  | _ => exact h2
theorem run_skip (h : Run (f := f) (ro := ro) P ds cs Q l w) : Run (f := f) (ro := ro) P ds (.skip :: cs) Q l w := wpF_skip h
theorem run_label {n : Nat} (h : Run (f := f) (ro := ro) P ds cs Q l w) : Run (f := f) (ro := ro) P ds (.label n :: cs) Q l w := wpF_label h
theorem run_ret (h : Q .ret ds l w) : Run (f := f) (ro := ro) P ds (.ret :: cs) Q l w := wpF_ret h
theorem run_exit {n : Nat} (h : Q (.exit n) ds l w) : Run (f := f) (ro := ro) P ds (.exit n :: cs) Q l w := wpF_exit h
theorem run_cond_true {c : Operand} (hc : ev l c = some (.bool true)) (h : Run (f := f) (ro := ro) P ds (x :: cs) Q l w) : Run (f := f) (ro := ro) P ds (.cond c x y :: cs) Q l w :=
  wpF_cond_true (eval_of hc) h
theorem run_cond_false {c : Operand} (hc : ev l c = some (.bool false)) (h : Run (f := f) (ro := ro) P ds (y :: cs) Q l w) : Run (f := f) (ro := ro) P ds (.cond c x y :: cs) Q l w :=
  wpF_cond_false (eval_of hc) h
theorem run_cond {c : Operand} {b : Bool} (hc : ev l c = some (.bool b)) (h1 : b = true → Run (f := f) (ro := ro) P ds (x :: cs) Q l w) (h2 : b = false → Run (f := f) (ro := ro) P ds (y :: cs) Q l w) : Run (f := f) (ro := ro) P ds (.cond c x y :: cs) Q l w := by
  cases b
  · exact run_cond_false hc (h2 rfl)
  · exact run_cond_true hc (h1 rfl)
def blkQ (n : Nat) (K : List Deferred → List Value → World → Prop) (Q : PostD) : PostD
  | .normal, ds, l, w => K ds l w
  | .exit i, ds, l, w => if i = n then K ds l w else Q (.exit i) ds l w
  | e, ds, l, w => Q e ds l w
theorem run_block {n : Nat} (h : Run (f := f) (ro := ro) P ds [x] (blkQ n (fun ds l w => Run (f := f) (ro := ro) P ds cs Q l w) Q) l w) : Run (f := f) (ro := ro) P ds (.block n x :: cs) Q l w := by
  refine wpF_block (wpF_mono h ?_)
  rintro e a w' h2
  cases e with
  | exit i =>
    simp only [Exit.inBlock]
    simp only [seqQ, blkQ] at h2
    split
    · rename_i hi; rw [if_pos hi] at h2; exact h2
    · rename_i hi; rw [if_neg hi] at h2; exact h2
  | _ => exact h2
theorem blk_normal {n : Nat} {K : List Deferred → List Value → World → Prop} (h : K ds l w) : blkQ n K Q .normal ds l w := h
theorem blk_exit {n : Nat} {K : List Deferred → List Value → World → Prop} (h : K ds l w) : blkQ n K Q (.exit n) ds l w := by simpa [blkQ] using h
theorem blk_other {n i : Nat} {K : List Deferred → List Value → World → Prop} (hi : (i == n) = false) (h : Q (.exit i) ds l w) : blkQ n K Q (.exit i) ds l w := by
  have : ¬ i = n := by simpa using hi
  simpa [blkQ, this] using h
theorem blk_ret {n : Nat} {K : List Deferred → List Value → World → Prop} (h : Q .ret ds l w) : blkQ n K Q .ret ds l w := h
theorem blk_panic {n : Nat} {ch : Chain} {K : List Deferred → List Value → World → Prop} (h : Q (.panic ch) ds l w) : blkQ n K Q (.panic ch) ds l w := h
def rndQ (K : List Deferred → List Value → World → Prop) (Q : PostD) : PostD
  | .normal, ds, l, w => K ds l w
  | e, ds, l, w => Q e ds l w
theorem rnd_normal {K : List Deferred → List Value → World → Prop} (h : K ds l w) : rndQ K Q .normal ds l w := h
theorem rnd_exit {n : Nat} {K : List Deferred → List Value → World → Prop} (h : Q (.exit n) ds l w) : rndQ K Q (.exit n) ds l w := h
theorem rnd_ret {K : List Deferred → List Value → World → Prop} (h : Q .ret ds l w) : rndQ K Q .ret ds l w := h
theorem rnd_panic {ch : Chain} {K : List Deferred → List Value → World → Prop} (h : Q (.panic ch) ds l w) : rndQ K Q (.panic ch) ds l w := h
/-- A loop: what holds at the head of each round, with a number that every round lowers. -/
theorem run_loop (I : Nat → List Value → World → Prop) (n₀ : Nat) (h₀ : I n₀ l w)
    (round : ∀ n l w, I n l w → Run (f := f) (ro := ro) P ds [x] (rndQ (fun d' l' w' => d' = ds ∧ ∃ n', n' < n ∧ I n' l' w') Q) l w) : Run (f := f) (ro := ro) P ds (.loop x :: cs) Q l w := by
  show wpF _ _ _ _ _ _ _
  have hi : ∀ (a : Act) w, (∃ n, a.defers = ds ∧ I n a.tmps.toList w) → a.defers = ds ∧ I (leastOf fun n => a.defers = ds ∧ I n a.tmps.toList w) a.tmps.toList w := fun a w h => (leastOf_spec h).1
  refine wpF_loop (fun a w => ∃ n, a.defers = ds ∧ I n a.tmps.toList w) (fun a w => leastOf fun n => a.defers = ds ∧ I n a.tmps.toList w) ⟨n₀, rfl, h₀⟩ ?_
  rintro ⟨t, d⟩ w' hI
  obtain ⟨hd, h1⟩ := hi _ _ hI
  simp only at hd
  subst hd
  refine wpF_mono (round _ _ _ h1) ?_
  rintro e a w2 h2
  cases e with
  | normal =>
    obtain ⟨hd, n', hn, hI'⟩ := h2
    exact ⟨⟨n', hd, hI'⟩, Nat.lt_of_le_of_lt ((leastOf_spec (p := fun n => a.defers = d ∧ I n a.tmps.toList w2) ⟨n', hd, hI'⟩).2 n' ⟨hd, hI'⟩) hn⟩
  | _ => exact h2
/-- Where ways meet again. -/
theorem run_cut (M : List Deferred → List Value → World → Prop) (h1 : Run (f := f) (ro := ro) P ds [x] (rndQ M Q) l w) (h2 : ∀ ds l w, M ds l w → Run (f := f) (ro := ro) P ds cs Q l w) : Run (f := f) (ro := ro) P ds (x :: cs) Q l w := by
  refine cd_mono h1 ?_
  intro e ds l w h
  cases e with
  | normal => exact h2 _ _ _ h
  | _ => exact h
abbrev QO (Q : PostD) (ds : List Deferred) : Post := fun e l w => Q e ds l w
/-- A region, by the plain laws on operations. -/
theorem run_region {n : Nat} {os : List Oper} (hd : os.all noDef = true) (hq : ∀ l w, ¬ Q .outgrown ds l w) (h : Ops P ds os (fun l w => Run (f := f) (ro := ro) P ds cs Q l w) (QO Q ds) os l w) : Run (f := f) (ro := ro) P ds (.region n os.toArray false :: cs) Q l w := by
  refine wpF_of (wpIn_region_lit ?_)
  have := wpListR (ro := ro) (n := 0) (P := P) (ops := os.toArray) (Q := fun e a w' => a.defers = ds ∧ QO Q ds e a.tmps.toList w') (Q' := fun e a w' => seqQ (RunX f ro P cs Q) Q e a.defers a.tmps.toList w')
    (fun a w h => hq _ _ h.2) (fun e a w he h => by cases e <;> first | exact absurd rfl he | (obtain ⟨h1, h2⟩ := h; rw [h1]; exact h2)) os [] ⟨l.toArray, ds⟩ w hd ?_
  · simpa using this
  · unfold Ops at h
    refine (show ∀ (os' : List Oper) (a : Act) (w : World), wpList P os.toArray (Exit.then (fun a w' => a.defers = ds ∧ Run (f := f) (ro := ro) P ds cs Q a.tmps.toList w') (fun e a w' => a.defers = ds ∧ QO Q ds e a.tmps.toList w')) os' a w → wpList P os.toArray (Exit.then (wpListIn (FR ro) 0 P os.toArray (fun e a w' => seqQ (RunX f ro P cs Q) Q e a.defers a.tmps.toList w') []) (fun e a w' => a.defers = ds ∧ QO Q ds e a.tmps.toList w')) os' a w from ?_) os _ _ h
    intro os' a w h
    refine wpList_mono' ?_ _ _ _ h
    rintro a w ⟨hd, h2⟩
    show RunX f ro P cs Q a.defers a.tmps.toList w
    rw [hd]
    exact h2
end code
end Rn
end Go.Proofs.Ytgkciibfpenjpaa
