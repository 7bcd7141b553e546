/-
  Parts of the walk, one behind the other.
-/
import Derived.Test.YtjoeklkmnfaabaaGreatK1
import Derived.RangeFuncRecord
import Derived.OrdersIn
import Derived.TacticsIn
import Derived.Recover
import Derived.Laws.CopyRow
import Derived.Laws.Strings
/-
  Code walked in whatever frame (a round's of a range over a function, or a plain one), where a function may panic and may bear marks of its loops: the laws on code; a region's laws out of the plain ones; a round; the statement.
-/
namespace Go.Proofs.YtjoeklkmnfaabaaGreat
open Go Go.RowKit
/-! ### Calls that may panic -/
abbrev Chain := List PanicEntry
/-- The call returns, or panics. -/
def DoesP (P : Program) (f : FuncId) (args : Array Value) (w : World) (R : Value → World → Prop) (RP : Chain → World → Prop) : Prop :=
  Calls P f args w fun e w' => match e with | .returned v => R v w' | .panicked ch => RP ch w' | .outgrown => False
theorem Does.p {P : Program} {f : FuncId} {args : Array Value} {w : World} {R : Value → World → Prop} (h : Does P f args w R) : DoesP P f args w R (fun _ _ => False) :=
  Calls.mono h fun e w' ⟨v, he, hR⟩ => by rw [he]; exact hR
theorem DoesP.d {P : Program} {f : FuncId} {args : Array Value} {w : World} {R : Value → World → Prop} {RP : Chain → World → Prop} (h : DoesP P f args w R RP) (hp : ∀ ch w', ¬ RP ch w') : Does P f args w R := by
  refine Calls.mono h fun e w' hh => ?_
  cases e with
  | returned v => exact ⟨v, rfl, hh⟩
  | panicked ch => exact absurd hh (hp _ _)
  | outgrown => exact hh.elim
theorem DoesP.mono {P : Program} {f : FuncId} {args : Array Value} {w : World} {R R' : Value → World → Prop} {RP RP' : Chain → World → Prop} (h : DoesP P f args w R RP) (hr : ∀ v w', R v w' → R' v w') (hp : ∀ ch w', RP ch w' → RP' ch w') : DoesP P f args w R' RP' := by
  refine Calls.mono h fun e w' hh => ?_
  cases e with
  | returned v => exact hr _ _ hh
  | panicked ch => exact hp _ _ hh
  | outgrown => exact hh
section ops
variable {P : Program} {ds : List Deferred} {Q : Post} {K : List Value → World → Prop} {all os : List Oper} {l : List Value} {w w' : World} {op : Op} {ty : TypeId} {pos : String} {af : Array Edge} {d : Tmp} {v : Value}
end ops

/-! ### The fences -/
def FR (ro : Option Nat) : Fence := { fn := fun _ => True, depth := none, alive := false, round := ro }
section conv
variable {ro : Option Nat} {n : Nat} {P : Program}
theorem callsR {f : FuncId} {args : Array Value} {w : World} {R : Ending → World → Prop} (h : Calls P f args w R) : CallsIn (FR ro) n P f args w R := (callsIn_wide (n := n)).2 h
theorem rowsR {row : String} {args : Array Value} {w : World} {R : Value → World → Prop} (h : Rows P row args w R) : RowsIn (FR ro) n P row args w R :=
  fun c cs _ => let ⟨v, w', r, s⟩ := h c cs; ⟨v, w', r, (stepsIn_wide.2 s : StepsIn (Machine.fenced P Fence.wide) P _ _)⟩
def noDef (o : Oper) : Bool := match o.op with | .defer _ => false | _ => true
theorem noDef_spec {o : Oper} (h : noDef o = true) : ∀ c, o.op ≠ .defer c := by
  intro c hc
  simp [noDef, hc] at h
theorem uponR {o : Oper} {a : Act} {next : Act → World → Prop} {Q : Exit → Act → World → Prop} {r : Result Next} (h : o.upon P a next Q r) : o.uponIn (FR ro) n P a next Q r := by
  cases r with
  | ok x w' =>
    cases x <;> first
      | exact h
      | exact h.elim
      | exact ⟨fun hd => (by cases hd), callsR h⟩
      | exact ⟨fun hd => (by cases hd), rowsR h⟩
  | halt x w' => cases x <;> first | exact h | exact h.elim
theorem wpR {o : Oper} {a : Act} {w : World} {next : Act → World → Prop} {Q : Exit → Act → World → Prop} (hd : noDef o = true) (h : o.wp P a w next Q) : o.wpIn (FR ro) n P a w next Q := by
  refine ⟨fun _ _ => trivial, ?_⟩
  rw [Oper.semAt_eq _ _ _ (noDef_spec hd)]
  exact uponR h
/-- A plain walk of operations is one in whatever frame. -/
theorem wpListR {ops : Array Oper} {Q Q' : Exit → Act → World → Prop} (hq : ∀ a w, ¬ Q .outgrown a w) (hqq : ∀ e a w, e ≠ .normal → Q e a w → Q' e a w) : ∀ (os rest : List Oper) (a : Act) (w : World), os.all noDef = true →
    wpList P ops (Exit.then (wpListIn (FR ro) n P ops Q' rest) Q) os a w → wpListIn (FR ro) n P ops Q' (os ++ rest) a w
  | [], rest, a, w, _, h => h
  | o :: os, rest, a, w, hd, h => by
    rw [List.all_cons, Bool.and_eq_true] at hd
    have ih := wpListR (ops := ops) hq hqq os rest
    unfold wpList at h
    show wpListIn (FR ro) n P ops Q' (o :: (os ++ rest)) a w
    unfold wpListIn
    split
    · rename_i hw
      rw [if_pos hw] at h
      rcases h with h | ⟨_, a1, w1, h2⟩
      · have h3 := wpR (ro := ro) (n := n) hd.1 h
        refine ⟨h3.1, ?_⟩
        have h4 := h3.2
        generalize (o.semAt (FR ro).round a.eval).run P w = r at h4 ⊢
        cases r with
        | ok x w' =>
          cases x <;> first
            | exact ih _ _ hd.2 h4
            | exact h4
            | exact ⟨h4.1, CallsIn.mono h4.2 (fun e w'' he => by
                cases e with
                | returned v => exact ih _ _ hd.2 he
                | panicked ch => exact hqq _ _ _ (by simp) he
                | outgrown => exact absurd he.choose_spec.choose_spec (hq _ _))⟩
            | exact ⟨h4.1, RowsIn.mono h4.2 (fun v w'' he => ih _ _ hd.2 he)⟩
            | exact ⟨h4.1, RoundIn.mono h4.2 (fun e w'' he => by
                cases e with
                | returned v => exact ih _ _ hd.2 he
                | panicked ch => exact hqq _ _ _ (by simp) he
                | outgrown => exact absurd he.choose_spec.choose_spec (hq _ _))⟩
        | halt x w' => cases x <;> first | exact hqq _ _ _ (by simp) h4 | exact h4
      · exact absurd h2 (hq _ _)
    · rename_i hw
      rw [if_neg hw] at h
      exact ⟨fun _ _ => trivial, ih _ _ hd.2 h⟩
end conv

theorem wpList_mono' {P : Program} {ops : Array Oper} {K1 K2 : Act → World → Prop} {Q : Exit → Act → World → Prop} (hK : ∀ a w, K1 a w → K2 a w) : ∀ (os : List Oper) (a : Act) (w : World), wpList P ops (Exit.then K1 Q) os a w → wpList P ops (Exit.then K2 Q) os a w
  | [], a, w, h => hK _ _ h
  | o :: os, a, w, h => by
    unfold wpList at h ⊢
    split
    · rename_i hw
      rw [if_pos hw] at h
      rcases h with h | ⟨h1, a1, w1, h2⟩
      · exact .inl (Oper.wp_mono (fun a w h => wpList_mono' hK os a w h) (wp_alt (fun e a w he h => by cases e <;> first | exact absurd rfl he | exact h) h))
      · exact .inr ⟨h1, a1, w1, h2⟩
    · rename_i hw
      rw [if_neg hw] at h
      exact wpList_mono' hK os _ _ h
/-! ### Code -/
abbrev PostD := Exit → List Deferred → List Value → World → Prop
/-- Code in a frame of function f. -/
def wpF (f : FuncId) (ro : Option Nat) (P : Program) (c : Code) (Q : Exit → Act → World → Prop) (a : Act) (w : World) : Prop :=
  ∀ (b : Frame) (k : List Item) (cs : List Frame), b.roundOf = ro → b.fn = f →
    ∃ e a' w', Q e a' w' ∧ ArrivesIn (Machine.fenced P Fence.wide) P (lone (b.atR a (.code c :: k)) cs w) b k cs e a' w'
section rules
variable {f : FuncId} {ro : Option Nat} {P : Program} {Q : Exit → Act → World → Prop} {a : Act} {w : World}
theorem roomR (ro : Option Nat) (n : Nat) : (FR ro).room n := fun _ h => (by cases h)
theorem wpF_of {c : Code} (h : c.wpIn (FR ro) 0 P Q a w) : wpF f ro P c Q a w := fun b k cs hro _ => h b k cs hro trivial (roomR _ _)
theorem wpF_mono {c : Code} {Q' : Exit → Act → World → Prop} (h : wpF f ro P c Q a w) (hq : ∀ e a w, Q e a w → Q' e a w) : wpF f ro P c Q' a w :=
  fun b k cs hro hb => let ⟨e, a', w', q, r⟩ := h b k cs hro hb; ⟨e, a', w', hq _ _ _ q, r⟩
theorem wpF_skip (h : Q .normal a w) : wpF f ro P .skip Q a w := wpF_of (wpIn_skip h)
theorem wpF_exit {id : Nat} (h : Q (.exit id) a w) : wpF f ro P (.exit id) Q a w := wpF_of (wpIn_exit h)
theorem wpF_ret (h : Q .ret a w) : wpF f ro P .ret Q a w := wpF_of (wpIn_ret h)
theorem wpF_seq {x y : Code} (h : wpF f ro P x (Exit.then (wpF f ro P y Q) Q) a w) : wpF f ro P (.seq x y) Q a w := by
  intro b k cs hro hb
  have h0 : ∀ m, Machine.fenced P Fence.wide m := fenced_wide P
  obtain ⟨e, a₁, w₁, hq, harr⟩ := h b (.code y :: k) cs hro hb
  cases e with
  | normal =>
    obtain ⟨e₂, a₂, w₂, hq₂, harr₂⟩ := hq b k cs hro hb
    exact ⟨e₂, a₂, w₂, hq₂, .of_steps (.head (h0 _) stepR_seq harr) harr₂⟩
  | exit id => exact ⟨_, a₁, w₁, hq, .of_steps (.one (h0 _) stepR_seq) (.pass (x := .code y) rfl (fun _ _ => .inl (by simp)) harr)⟩
  | goto l => exact ⟨_, a₁, w₁, hq, .of_steps (.one (h0 _) stepR_seq) (.pass (x := .code y) rfl (fun _ _ => .inl (by simp)) harr)⟩
  | ret => exact ⟨_, a₁, w₁, hq, .of_steps (.one (h0 _) stepR_seq) (.pass (x := .code y) rfl (fun _ _ => .inl (by simp)) harr)⟩
  | panic ch => exact ⟨_, a₁, w₁, hq, .of_steps (.one (h0 _) stepR_seq) (.pass (x := .code y) rfl (fun _ _ => .inl (by simp)) harr)⟩
  | outgrown => exact ⟨_, a₁, w₁, hq, .of_steps (.one (h0 _) stepR_seq) (.pass (x := .code y) rfl (fun _ _ => .inl (by simp)) harr)⟩
theorem wpF_cond {c : Operand} {x y : Code} {t : Bool} (hc : a.eval c = .bool t) (h : wpF f ro P (if t then x else y) Q a w) : wpF f ro P (.cond c x y) Q a w :=
  fun b k cs hro hb => let ⟨e, a', w', q, r⟩ := h b k cs hro hb; ⟨e, a', w', q, .of_steps (.one (fenced_wide P _) (stepR_cond hc)) r⟩
theorem wpF_cond_true {c : Operand} {x y : Code} (hc : a.eval c = .bool true) (h : wpF f ro P x Q a w) : wpF f ro P (.cond c x y) Q a w := wpF_cond hc h
theorem wpF_cond_false {c : Operand} {x y : Code} (hc : a.eval c = .bool false) (h : wpF f ro P y Q a w) : wpF f ro P (.cond c x y) Q a w := wpF_cond hc h
theorem wpF_block {id : Nat} {c : Code} (h : wpF f ro P c (Exit.inBlock id Q) a w) : wpF f ro P (.block id c) Q a w := by
  intro b k cs hro hb
  have h0 : ∀ m, Machine.fenced P Fence.wide m := fenced_wide P
  obtain ⟨e, a₁, w₁, hq, harr⟩ := h b (.inBlock id :: k) cs hro hb
  cases e with
  | normal => exact ⟨.normal, a₁, w₁, hq, .head (h0 _) stepR_block (StepsIn.trans harr (.one (h0 _) stepR_inBlock))⟩
  | exit id' =>
    by_cases hid : id' = id
    · simp only [Exit.inBlock, hid, if_true] at hq
      exact ⟨.normal, a₁, w₁, hq, .head (h0 _) stepR_block (harr.1 k (by simp [exitTo, hid]))⟩
    · simp only [Exit.inBlock, hid, if_false] at hq
      have this : (id == id') = false := by simp; exact fun h => hid h.symm
      have hx : exitTo id' (.inBlock id :: k) = exitTo id' k := by simp [exitTo, this]
      exact ⟨.exit id', a₁, w₁, hq, fun k' hk => .head (h0 _) stepR_block (harr.1 k' (by rw [hx]; exact hk)),
        fun hr' hk => let ⟨k₁, h1, h2⟩ := harr.2 hr' (by rw [hx]; exact hk); ⟨k₁, h1, .head (h0 _) stepR_block h2⟩⟩
  | goto l =>
    have hx : gotoIn l (.inBlock id :: k) = gotoIn l k := by simp [gotoIn]
    exact ⟨_, a₁, w₁, hq, fun k' hk => .head (h0 _) stepR_block (harr.1 k' (by rw [hx]; exact hk)),
      fun hr' hk => let ⟨k₁, h1, h2⟩ := harr.2 hr' (by rw [hx]; exact hk); ⟨k₁, h1, .head (h0 _) stepR_block h2⟩⟩
  | ret => exact ⟨_, a₁, w₁, hq, .of_steps (.one (h0 _) stepR_block) harr⟩
  | panic ch => exact ⟨_, a₁, w₁, hq, .of_steps (.one (h0 _) stepR_block) harr⟩
  | outgrown => exact ⟨_, a₁, w₁, hq, .of_steps (.one (h0 _) stepR_block) harr⟩
theorem wpF_loop {c : Code} (I : Act → World → Prop) (μ : Act → World → Nat) (h₀ : I a w)
    (round : ∀ a w, I a w → wpF f ro P c (Exit.then (fun a' w' => I a' w' ∧ μ a' w' < μ a w) Q) a w) : wpF f ro P (.loop c) Q a w := by
  intro b k cs hro hb
  have hw : ∀ m, Machine.fenced P Fence.wide m := fenced_wide P
  have key : ∀ j a w, μ a w = j → I a w →
      ∃ e a' w', Q e a' w' ∧ ArrivesIn (Machine.fenced P Fence.wide) P (lone (b.atR a (.code c :: .inLoop c :: k)) cs w) b k cs e a' w' := by
    intro j
    induction j using Nat.strongRecOn with
    | _ j ih =>
      intro a w hn hI
      obtain ⟨e, a₁, w₁, hq, harr⟩ := round a w hI b (.inLoop c :: k) cs hro hb
      cases e with
      | normal =>
        obtain ⟨hI₁, hlt⟩ := hq
        obtain ⟨e₂, a₂, w₂, hq₂, harr₂⟩ := ih (μ a₁ w₁) (hn ▸ hlt) a₁ w₁ rfl hI₁
        exact ⟨e₂, a₂, w₂, hq₂, .of_steps (StepsIn.trans harr (.one (hw _) stepR_inLoop)) harr₂⟩
      | exit id => exact ⟨_, a₁, w₁, hq, .pass (x := .inLoop c) rfl (fun _ _ => .inl (by simp)) harr⟩
      | goto l => exact ⟨_, a₁, w₁, hq, .pass (x := .inLoop c) rfl (fun _ _ => .inl (by simp)) harr⟩
      | ret => exact ⟨_, a₁, w₁, hq, .pass (x := .inLoop c) rfl (fun _ _ => .inl (by simp)) harr⟩
      | panic ch => exact ⟨_, a₁, w₁, hq, .pass (x := .inLoop c) rfl (fun _ _ => .inl (by simp)) harr⟩
      | outgrown => exact ⟨_, a₁, w₁, hq, .pass (x := .inLoop c) rfl (fun _ _ => .inl (by simp)) harr⟩
  obtain ⟨e, a', w', hq, harr⟩ := key _ a w rfl h₀
  exact ⟨e, a', w', hq, .of_steps (.one (hw _) stepR_loop) harr⟩
end rules
namespace Rn
def Cd {f : FuncId} {ro : Option Nat} (P : Program) (ds : List Deferred) (c : Code) (Q : PostD) (l : List Value) (w : World) : Prop :=
  wpF f ro P c (fun e a w' => Q e a.defers a.tmps.toList w') ⟨l.toArray, ds⟩ w
def seqQ (K : List Deferred → List Value → World → Prop) (Q : PostD) : PostD
  | .normal, ds, l, w => K ds l w
  | e, ds, l, w => Q e ds l w
/-- These pieces of code, one behind the other. -/
def RunX (f : FuncId) (ro : Option Nat) (P : Program) : List Code → PostD → List Deferred → List Value → World → Prop
  | [], Q => Q .normal
  | c :: cs, Q => fun ds l w => Cd (f := f) (ro := ro) P ds c (seqQ (RunX f ro P cs Q) Q) l w
def Run {f : FuncId} {ro : Option Nat} (P : Program) (ds : List Deferred) (cs : List Code) (Q : PostD) (l : List Value) (w : World) : Prop := RunX f ro P cs Q ds l w
section code
variable {f : FuncId} {ro : Option Nat} {P : Program} {ds : List Deferred} {Q : PostD} {l : List Value} {w : World} {x y : Code} {cs : List Code}
theorem run_nil (h : Q .normal ds l w) : Run (f := f) (ro := ro) P ds [] Q l w := h
theorem run_seq (h : Run (f := f) (ro := ro) P ds (x :: y :: cs) Q l w) : Run (f := f) (ro := ro) P ds (.seq x y :: cs) Q l w := by
  refine wpF_seq (wpF_mono h ?_)
  rintro e ⟨t, d⟩ w' h2
  cases e with
  | normal => exact wpF_mono h2 (fun e a w h => by cases e <;> exact h)
  | _ => exact h2
theorem run_skip (h : Run (f := f) (ro := ro) P ds cs Q l w) : Run (f := f) (ro := ro) P ds (.skip :: cs) Q l w := wpF_skip h
theorem run_ret (h : Q .ret ds l w) : Run (f := f) (ro := ro) P ds (.ret :: cs) Q l w := wpF_ret h
theorem run_exit {n : Nat} (h : Q (.exit n) ds l w) : Run (f := f) (ro := ro) P ds (.exit n :: cs) Q l w := wpF_exit h
theorem run_cond_true {c : Operand} (hc : ev l c = some (.bool true)) (h : Run (f := f) (ro := ro) P ds (x :: cs) Q l w) : Run (f := f) (ro := ro) P ds (.cond c x y :: cs) Q l w :=
  wpF_cond_true (eval_of hc) h
theorem run_cond_false {c : Operand} (hc : ev l c = some (.bool false)) (h : Run (f := f) (ro := ro) P ds (y :: cs) Q l w) : Run (f := f) (ro := ro) P ds (.cond c x y :: cs) Q l w :=
  wpF_cond_false (eval_of hc) h
theorem run_cond {c : Operand} {b : Bool} (hc : ev l c = some (.bool b)) (h1 : b = true → Run (f := f) (ro := ro) P ds (x :: cs) Q l w) (h2 : b = false → Run (f := f) (ro := ro) P ds (y :: cs) Q l w) : Run (f := f) (ro := ro) P ds (.cond c x y :: cs) Q l w := by
  cases b
  · exact run_cond_false hc (h2 rfl)
  · exact run_cond_true hc (h1 rfl)
def blkQ (n : Nat) (K : List Deferred → List Value → World → Prop) (Q : PostD) : PostD
  | .normal, ds, l, w => K ds l w
  | .exit i, ds, l, w => if i = n then K ds l w else Q (.exit i) ds l w
  | e, ds, l, w => Q e ds l w
theorem run_block {n : Nat} (h : Run (f := f) (ro := ro) P ds [x] (blkQ n (fun ds l w => Run (f := f) (ro := ro) P ds cs Q l w) Q) l w) : Run (f := f) (ro := ro) P ds (.block n x :: cs) Q l w := by
  refine wpF_block (wpF_mono h ?_)
  rintro e a w' h2
  cases e with
  | exit i =>
    simp only [Exit.inBlock]
    simp only [seqQ, blkQ] at h2
    split
    · rename_i hi; rw [if_pos hi] at h2; exact h2
    · rename_i hi; rw [if_neg hi] at h2; exact h2
  | _ => exact h2
theorem blk_normal {n : Nat} {K : List Deferred → List Value → World → Prop} (h : K ds l w) : blkQ n K Q .normal ds l w := h
theorem blk_exit {n : Nat} {K : List Deferred → List Value → World → Prop} (h : K ds l w) : blkQ n K Q (.exit n) ds l w := by simpa [blkQ] using h
theorem blk_ret {n : Nat} {K : List Deferred → List Value → World → Prop} (h : Q .ret ds l w) : blkQ n K Q .ret ds l w := h
def rndQ (K : List Deferred → List Value → World → Prop) (Q : PostD) : PostD
  | .normal, ds, l, w => K ds l w
  | e, ds, l, w => Q e ds l w
theorem rnd_normal {K : List Deferred → List Value → World → Prop} (h : K ds l w) : rndQ K Q .normal ds l w := h
theorem rnd_exit {n : Nat} {K : List Deferred → List Value → World → Prop} (h : Q (.exit n) ds l w) : rndQ K Q (.exit n) ds l w := h
theorem rnd_ret {K : List Deferred → List Value → World → Prop} (h : Q .ret ds l w) : rndQ K Q .ret ds l w := h
/-- A loop: what holds at the head of each round, with a number that every round lowers. -/
theorem run_loop (I : Nat → List Value → World → Prop) (n₀ : Nat) (h₀ : I n₀ l w)
    (round : ∀ n l w, I n l w → Run (f := f) (ro := ro) P ds [x] (rndQ (fun d' l' w' => d' = ds ∧ ∃ n', n' < n ∧ I n' l' w') Q) l w) : Run (f := f) (ro := ro) P ds (.loop x :: cs) Q l w := by
  show wpF _ _ _ _ _ _ _
  have hi : ∀ (a : Act) w, (∃ n, a.defers = ds ∧ I n a.tmps.toList w) → a.defers = ds ∧ I (leastOf fun n => a.defers = ds ∧ I n a.tmps.toList w) a.tmps.toList w := fun a w h => (leastOf_spec h).1
  refine wpF_loop (fun a w => ∃ n, a.defers = ds ∧ I n a.tmps.toList w) (fun a w => leastOf fun n => a.defers = ds ∧ I n a.tmps.toList w) ⟨n₀, rfl, h₀⟩ ?_
  rintro ⟨t, d⟩ w' hI
  obtain ⟨hd, h1⟩ := hi _ _ hI
  simp only at hd
  subst hd
  refine wpF_mono (round _ _ _ h1) ?_
  rintro e a w2 h2
  cases e with
  | normal =>
    obtain ⟨hd, n', hn, hI'⟩ := h2
    exact ⟨⟨n', hd, hI'⟩, Nat.lt_of_le_of_lt ((leastOf_spec (p := fun n => a.defers = d ∧ I n a.tmps.toList w2) ⟨n', hd, hI'⟩).2 n' ⟨hd, hI'⟩) hn⟩
  | _ => exact h2
abbrev QO (Q : PostD) (ds : List Deferred) : Post := fun e l w => Q e ds l w
/-- A region, by the plain laws on operations. -/
theorem run_region {n : Nat} {os : List Oper} (hd : os.all noDef = true) (hq : ∀ l w, ¬ Q .outgrown ds l w) (h : Ops P ds os (fun l w => Run (f := f) (ro := ro) P ds cs Q l w) (QO Q ds) os l w) : Run (f := f) (ro := ro) P ds (.region n os.toArray false :: cs) Q l w := by
  refine wpF_of (wpIn_region_lit ?_)
  have := wpListR (ro := ro) (n := 0) (P := P) (ops := os.toArray) (Q := fun e a w' => a.defers = ds ∧ QO Q ds e a.tmps.toList w') (Q' := fun e a w' => seqQ (RunX f ro P cs Q) Q e a.defers a.tmps.toList w')
    (fun a w h => hq _ _ h.2) (fun e a w he h => by cases e <;> first | exact absurd rfl he | (obtain ⟨h1, h2⟩ := h; rw [h1]; exact h2)) os [] ⟨l.toArray, ds⟩ w hd ?_
  · simpa using this
  · unfold Ops at h
    refine (show ∀ (os' : List Oper) (a : Act) (w : World), wpList P os.toArray (Exit.then (fun a w' => a.defers = ds ∧ Run (f := f) (ro := ro) P ds cs Q a.tmps.toList w') (fun e a w' => a.defers = ds ∧ QO Q ds e a.tmps.toList w')) os' a w → wpList P os.toArray (Exit.then (wpListIn (FR ro) 0 P os.toArray (fun e a w' => seqQ (RunX f ro P cs Q) Q e a.defers a.tmps.toList w') []) (fun e a w' => a.defers = ds ∧ QO Q ds e a.tmps.toList w')) os' a w from ?_) os _ _ h
    intro os' a w h
    refine wpList_mono' ?_ _ _ _ h
    rintro a w ⟨hd, h2⟩
    show RunX f ro P cs Q a.defers a.tmps.toList w
    rw [hd]
    exact h2
end code
end Rn
end Go.Proofs.YtjoeklkmnfaabaaGreat
/-
  Regions that draw their order, in whatever frame; a function's end; a round of a range over a function, and the statement.
-/
namespace Go.Proofs.YtjoeklkmnfaabaaGreat
open Go Go.RowKit
section conv
variable {ro : Option Nat} {n : Nat} {P : Program} {ops : Array Oper} {md : Region.Mode} {Q Q' : Exit → Act → World → Prop}
theorem wpRR {o : Oper} {a : Act} {w : World} {next next' : Act → World → Prop} (hn : ∀ a w, next a w → next' a w) (hq : ∀ a w, ¬ Q .outgrown a w) (hqq : ∀ e a w, e ≠ .normal → Q e a w → Q' e a w) (hd : noDef o = true)
    (h : o.wp P a w next Q ∨ (o.asks P a w ∧ LetsOut Q)) : o.wpIn (FR ro) n P a w next' Q' := by
  rcases h with h | ⟨_, a1, w1, h2⟩
  · have h3 := wpR (ro := ro) (n := n) hd h
    refine ⟨h3.1, ?_⟩
    have h4 := h3.2
    generalize (o.semAt (FR ro).round a.eval).run P w = r at h4 ⊢
    cases r with
    | ok x w' =>
      cases x <;> first
        | exact hn _ _ h4
        | exact h4
        | exact ⟨h4.1, CallsIn.mono h4.2 (fun e w'' he => by
            cases e with
            | returned v => exact hn _ _ he
            | panicked ch => exact hqq _ _ _ (by simp) he
            | outgrown => exact absurd he.choose_spec.choose_spec (hq _ _))⟩
        | exact ⟨h4.1, RowsIn.mono h4.2 (fun v w'' he => hn _ _ he)⟩
        | exact ⟨h4.1, RoundIn.mono h4.2 (fun e w'' he => by
            cases e with
            | returned v => exact hn _ _ he
            | panicked ch => exact hqq _ _ _ (by simp) he
            | outgrown => exact absurd he.choose_spec.choose_spec (hq _ _))⟩
    | halt x w' => cases x <;> first | exact hqq _ _ _ (by simp) h4 | exact h4
  · exact absurd h2 (hq _ _)
theorem wpOpR {i : Nat} {a : Act} {w : World} {next next' : Act → World → Prop} (hn : ∀ a w, next a w → next' a w) (hq : ∀ a w, ¬ Q .outgrown a w) (hqq : ∀ e a w, e ≠ .normal → Q e a w → Q' e a w) (hd : ∀ o, ops[i]? = some o → noDef o = true)
    (h : wpOp P ops Q i next a w) : wpOpIn (FR ro) n P ops Q' i next' a w := by
  unfold wpOp at h
  unfold wpOpIn
  split
  · rename_i hi; rw [hi] at h; exact hn _ _ h
  · rename_i o hi
    rw [hi] at h
    simp only at h
    split
    · rename_i hw; rw [if_pos hw] at h; exact wpRR hn hq hqq (hd o hi) h
    · rename_i hw; rw [if_neg hw] at h; exact ⟨fun _ _ => trivial, hn _ _ h⟩
theorem wpAnyR (hq : ∀ a w, ¬ Q .outgrown a w) (hqq : ∀ e a w, Q e a w → Q' e a w) (hd : ∀ (i : Nat) (o : Oper), ops[i]? = some o → noDef o = true) : ∀ (f : Nat) (listed : Array Bool) (a : Act) (w : World), wpAny P md ops Q f listed a w → wpAnyIn (FR ro) n P md ops Q' f listed a w
  | 0, _, _, _, h => ⟨h.1, hqq _ _ _ h.2⟩
  | f + 1, _, _, _, h => ⟨fun hr => hqq _ _ _ (h.1 hr), fun i hi => wpOpR (fun a w h => wpAnyR hq hqq hd f _ a w h) hq (fun e a w _ h => hqq e a w h) (hd i) (h.2 i hi)⟩
theorem noDef_all {os : List Oper} (hd : os.all noDef = true) : ∀ (i : Nat) (o : Oper), os.toArray[i]? = some o → noDef o = true := by
  intro i o h
  rw [List.getElem?_toArray] at h
  exact List.all_eq_true.1 hd o (List.mem_of_getElem? h)
end conv
namespace Rn
section code
variable {f : FuncId} {ro : Option Nat} {P : Program} {ds : List Deferred} {Q : PostD} {l : List Value} {w : World} {cs : List Code}
theorem any_run {n : Nat} {os : List Oper} (hm : P.follows .mixedOrders = true) (hd : os.all noDef = true) {Q1 : Exit → Act → World → Prop} (hq : ∀ a w, ¬ Q1 .outgrown a w) (hqq : ∀ e a w, Q1 e a w → seqQ (RunX f ro P cs Q) Q e a.defers a.tmps.toList w)
    (h : wpAny P .any os.toArray Q1 os.toArray.size (Array.replicate os.toArray.size false) ⟨l.toArray, ds⟩ { w with drawn := w.drawn + 1 }) : Run (f := f) (ro := ro) P ds (.region n os.toArray true :: cs) Q l w :=
  wpF_of (wpIn_region_any hm (wpAnyR hq hqq (noDef_all hd) _ _ _ _ h))
theorem run_mixZ {n : Nat} {all : List Oper} {w0 : World} {SS : List Nat} {es : List Ent} (z : Nat) (s : List (Bool × Nat)) (H : Hp w0 w SS es) (idx : List Nat) (hm : P.follows .mixedOrders = true) (hnd : idx.Nodup)
    (hB : (Region.noSelect all.toArray && decide (s.length = all.length) && decide (z + 1 = all.length) && Region.sinkB .any all.toArray z && mixZB all.toArray z s (Array.replicate all.length false)) = true) (hd : all.all noDef = true)
    (h : ∀ w', w' = { w with drawn := w.drawn + 1 } → MixZ P ds all (fun wz => Hp w0 wz SS (idx.map fun i => es.getD i (none, 0, []))) (fun l w => Run (f := f) (ro := ro) P ds cs Q l w) s l w') : Run (f := f) (ro := ro) P ds (.region n all.toArray true :: cs) Q l w := by
  simp only [Bool.and_eq_true, decide_eq_true_eq] at hB
  obtain ⟨⟨⟨⟨hsel, hlen⟩, hz⟩, hs⟩, hB⟩ := hB
  have inv0 : HeadInv .any all.toArray z (Array.replicate all.toArray.size false) :=
    ⟨by simp, fun j oj _ hl => (by rw [getD_replicate_false] at hl; cases hl), fun t _ ht => getD_in (by simpa using ht) (getD_replicate_false _ _)⟩
  refine any_run (Q1 := fun e a w' => a.defers = ds ∧ Go.Proofs.YtjoeklkmnfaabaaGreat.seqQ (fun l w => Run (f := f) (ro := ro) P ds cs Q l w) (fun _ _ _ => False) e a.tmps.toList w') hm hd (fun a w h => h.2) ?_ ?_
  · intro e a w h
    cases e with
    | normal => show RunX f ro P cs Q a.defers a.tmps.toList w; rw [h.1]; exact h.2
    | _ => exact h.2.elim
  · have := mixz_any (S := fun wz => Hp w0 wz SS (idx.map fun i => es.getD i (none, 0, []))) (K := fun l w => Run (f := f) (ro := ro) P ds cs Q l w) (P := P) (ds := ds) hsel hs (by simpa using hz) s _ l { w with drawn := w.drawn + 1 } (fun _ => by simpa using inv0) hB (fun _ => H.drew.pick idx hnd) (h _ rfl)
    rw [hlen] at this
    have h2 := any_of_Z _ _ _ _ this
    simpa using h2
/-! A function's end. -/
def takes (P : Program) : List Deferred → World → (World → Prop) → Prop
  | [], w, K => K w
  | d :: ds, w, K => ∃ r w', d.target = .collected r ∧ (Instr.takeDeferred r).run P w = .ok [] w' ∧ takes P ds w' K
/-- What the end of a function's code must show. -/
def fin (P : Program) (fn : Func) (R : Value → World → Prop) (RP : Chain → World → Prop) : PostD
  | .normal, ds, l, w => takes P ds w fun w => ∃ v, (results fn l.toArray).run P w = .ok v w ∧ R v w
  | .ret, ds, l, w => takes P ds w fun w => ∃ v, (results fn l.toArray).run P w = .ok v w ∧ R v w
  | .panic ch, ds, _, w => takes P ds w (RP ch)
  | _, _, _, _ => False
theorem leaves_of {P : Program} {fn : Func} {tmps : Array Value} {R : Ending → World → Prop} {u : FrameMode} (hu : u ≠ .run) {K : World → Prop} (hK : ∀ w, K w → LeavesIn (FR none) 0 P fn tmps R [] u w) : ∀ (ds : List Deferred) (w : World), takes P ds w K → LeavesInM (FR none) 0 P fn tmps R ds u w
  | [], w, h => hK w h
  | _ :: ds, _, ⟨r, w', h1, h2, h3⟩ => ⟨hu, .inl ⟨r, w', h1, h2, leaves_of hu hK ds w' h3⟩⟩
/-- As Code.wpIn, in a frame of the function alone. -/
theorem calls_of {fn : Func} {c : Code} {args : Array Value} {R : Ending → World → Prop} (hf : P.funcs[f]? = some fn) (hb : fn.body = some c)
    (h : wpF f none P c (bodyPostM (FR none) 0 P fn R) { tmps := args ++ Array.replicate (fn.ntmps - args.size) undef, defers := [] } w) : Calls P f args w R := by
  refine (callsIn_wide (n := 0)).1 ⟨trivial, fun cs _ => ?_⟩
  let b : Frame := { (default : Frame) with fn := f, kind := .normal, roundOf := none }
  have henter : Frame.enter P f args .normal =
      b.atR { tmps := args ++ Array.replicate (fn.ntmps - args.size) undef, defers := [] } [.code c] := by
    simp [Frame.enter, Frame.atR, hf, hb, b]
  have hw : ∀ m, Machine.fenced P Fence.wide m := fenced_wide P
  have hst : ∀ (ds : List Deferred) (u : FrameMode) (w : World) (fr : Frame), fr.mode = u → fr.defers = ds → fr.tmps = fr.tmps → fr.fn = f → fr.kind = .normal → LeavesInM (FR none) 0 P fn fr.tmps R ds u w →
      ∃ e w' fr', R e w' ∧ ComesIn (Machine.fenced P Fence.wide) P (lone fr cs w) (lone fr' cs w') e ∧ fr'.fn = fr.fn ∧ fr'.leaving P w' e := by
    intro ds u w fr hu hd _ hff hk h
    exact leaves_stepsInM (F := FR none) (n := 0) ds u w fr cs hu hd rfl (by rw [hff]; exact hf) hk trivial (roomR _ _) h
  obtain ⟨e, a', w', hq, harr⟩ := h b [] cs rfl rfl
  rw [← henter] at harr
  cases e with
  | normal =>
    obtain ⟨e', w'', fr', hR, hs, hfn, hl⟩ := hst a'.defers .returning w' { b.atR a' [] with mode := .returning } rfl rfl rfl rfl rfl hq
    exact ⟨e', w'', fr', hR, ComesIn.of_steps (StepsIn.trans harr (.one (hw _) (stepR_end rfl))) hs, hfn, hl⟩
  | ret =>
    obtain ⟨todo, hs₀⟩ := harr.1 rfl
    obtain ⟨e', w'', fr', hR, hs, hfn, hl⟩ := hst a'.defers .returning w' { b.atR a' todo with mode := .returning } rfl rfl rfl rfl rfl hq
    exact ⟨e', w'', fr', hR, ComesIn.of_steps hs₀ hs, hfn, hl⟩
  | panic chain =>
    obtain ⟨todo, hs₀⟩ := harr
    obtain ⟨e', w'', fr', hR, hs, hfn, hl⟩ := hst a'.defers (.panicking chain) w' { b.atR a' todo with mode := .panicking chain } rfl rfl rfl rfl rfl hq
    exact ⟨e', w'', fr', hR, ComesIn.of_steps hs₀ hs, hfn, hl⟩
  | exit id => exact hq.elim
  | goto l => exact hq.elim
  | outgrown => exact ⟨.outgrown, w', b, hq, harr.resolve_left (by simp [b]), rfl, trivial⟩
theorem does_of {fn : Func} {c : Code} {args : List Value} {R : Value → World → Prop} {RP : Chain → World → Prop} {n : Nat} (hf : P.funcs[f]? = some fn) (hn : fn.ntmps = n) (hb : fn.body = some c)
    (h : Run (f := f) (ro := none) P [] [c] (fin P fn R RP) (args ++ List.replicate (n - args.length) undef) w) : DoesP P f args.toArray w R RP := by
  refine calls_of hf hb ?_
  have e : (args.toArray ++ Array.replicate (fn.ntmps - args.toArray.size) undef) = (args ++ List.replicate (n - args.length) undef).toArray := by
    rw [hn]; simp
  rw [e]
  refine wpF_mono h ?_
  intro e a w' hq
  have e2 : a.tmps.toList.toArray = a.tmps := by simp
  cases e with
  | normal =>
    refine leaves_of (by simp) (fun w hw => ?_) _ _ hq
    obtain ⟨v, h1, h2⟩ := hw
    rw [e2] at h1
    exact ⟨v, h1, h2⟩
  | ret =>
    refine leaves_of (by simp) (fun w hw => ?_) _ _ hq
    obtain ⟨v, h1, h2⟩ := hw
    rw [e2] at h1
    exact ⟨v, h1, h2⟩
  | panic ch => exact leaves_of (by simp) (fun w hw => hw) _ _ hq
  | exit id => exact hq.elim
  | goto l => exact hq.elim
  | outgrown => exact hq.elim
end code
end Rn
end Go.Proofs.YtjoeklkmnfaabaaGreat
/-
  A deferred closure that recovers; a function's end where one is deferred.
-/
namespace Go.Proofs.YtjoeklkmnfaabaaGreat
open Go Go.RowKit
section
variable {P : Program} {k : FuncId} {w : World}
/-- What recover hands back, and how the frame below goes on. -/
def Rec (u : FrameMode) (v : Value) (u' : FrameMode) : Prop :=
  (u = .returning ∧ v = .nilIface ∧ u' = .returning) ∨ (∃ x, u = .panicking [{ v := x, recovered := false }] ∧ v = x ∧ u' = .panicking [{ v := x, recovered := true }])
theorem Rec.run {u : FrameMode} {v : Value} {u' : FrameMode} (h : Rec u v u') : u ≠ .run := by
  rcases h with ⟨rfl, _, _⟩ | ⟨x, rfl, _, _⟩ <;> simp
theorem ex_recover_run (ρ : Operand → Value) (d : Option Tmp) (ty : TypeId) (pos : String) (af : Array Edge) (ats : Array TypeId) : (execOp ρ ⟨d, .call { callee := .builtin .recover, args := #[], argTypes := ats }, ty, pos, af, none⟩).run P w = .ok .recover w := by
  simp [execOp, resolve, invoke, builtin]
theorem recovers {fn : Func} {n m : Nat} {rest : Code} {d1 d2 : Tmp} {t1 t2 : TypeId} {p1 p2 : String} {a1 a2 : Array Edge} {args : List Value} {u u' : FrameMode} {v : Value} {R : Value → World → Prop} (hf : P.funcs[k]? = some fn) (hn : fn.ntmps = m)
    (hb : fn.body = some (.seq (.region n #[⟨some d1, .call { callee := .builtin .recover, args := #[], argTypes := #[] }, t1, p1, a1, none⟩, ⟨some d2, .assign (.tmp d1), t2, p2, a2, none⟩] false) rest))
    (hrec : Rec u v u') (hv : nth ((args ++ List.replicate (m - args.length) undef).set d1 v) d1 = some v) (h : Run P [] [rest] (fin P fn R) (((args ++ List.replicate (m - args.length) undef).set d1 v).set d2 v) w) :
    CallsDIn (FR none) 0 P k args.toArray u w fun e u1 w' => ∃ r, e = .returned r ∧ u1 = u' ∧ R r w' := by
  refine ⟨trivial, fun c₀ cs hu _ => ?_⟩
  show ∃ e u1 w' fr, _ ∧ ComesIn (Machine.fenced P Fence.wide) P _ _ e ∧ _ ∧ _ ∧ _
  let b : Frame := { (default : Frame) with fn := k, kind := .deferred }
  have e1 : (args.toArray ++ Array.replicate (fn.ntmps - args.toArray.size) undef) = (args ++ List.replicate (m - args.length) undef).toArray := by
    rw [hn]; simp
  have henter : Frame.enter P k args.toArray .deferred =
      b.at ⟨(args ++ List.replicate (m - args.length) undef).toArray, []⟩ [.code (.seq (.region n #[⟨some d1, .call { callee := .builtin .recover, args := #[], argTypes := #[] }, t1, p1, a1, none⟩, ⟨some d2, .assign (.tmp d1), t2, p2, a2, none⟩] false) rest)] := by
    have e1' : (args.toArray ++ Array.replicate (m - args.toArray.size) undef) = (args ++ List.replicate (m - args.length) undef).toArray := by simp
    simp [Frame.enter, Frame.at, hf, hb, hn, b]
  have hS : (Code.seq (.region n #[⟨some d1, .call { callee := .builtin .recover, args := #[], argTypes := #[] }, t1, p1, a1, none⟩, ⟨some d2, .assign (.tmp d1), t2, p2, a2, none⟩] false) rest).wpS P
      (fun e a cs' w' => (e = .normal ∨ e = .ret) ∧ a.defers = [] ∧ cs' = { c₀ with mode := u' } :: cs ∧ ∃ r, (results fn a.tmps).run P w' = .ok r w' ∧ R r w') ⟨(args ++ List.replicate (m - args.length) undef).toArray, []⟩ (c₀ :: cs) w := by
    refine wpS_seq (wpS_region ?_)
    generalize hl : args ++ List.replicate (m - args.length) undef = l at hv h ⊢
    have hrest : ∀ cs', cs' = { c₀ with mode := u' } :: cs → wpOpsS P #[⟨some d1, .call { callee := .builtin .recover, args := #[], argTypes := #[] }, t1, p1, a1, none⟩, ⟨some d2, .assign (.tmp d1), t2, p2, a2, none⟩]
        (Exit.thenS (rest.wpS P (fun e a cs' w' => (e = .normal ∨ e = .ret) ∧ a.defers = [] ∧ cs' = { c₀ with mode := u' } :: cs ∧ ∃ r, (results fn a.tmps).run P w' = .ok r w' ∧ R r w')) (fun e a cs' w' => (e = .normal ∨ e = .ret) ∧ a.defers = [] ∧ cs' = { c₀ with mode := u' } :: cs ∧ ∃ r, (results fn a.tmps).run P w' = .ok r w' ∧ R r w')) [1] ((⟨l.toArray, []⟩ : Act).put (some d1) v) cs' w := by
      intro cs' hcs
      have hx : (execOp ((⟨l.toArray, []⟩ : Act).put (some d1) v).eval ⟨some d2, .assign (.tmp d1), t2, p2, a2, none⟩).run P w = .ok (.value v) w := by
        rw [list_put]
        have : (⟨(l.set d1 v).toArray, []⟩ : Act).eval (.tmp d1) = v := eval_of (x := .tmp d1) (by simpa [ev] using hv)
        simp [execOp, this]
      simp only [wpOpsS, List.getElem?_toArray, List.getElem?_cons_succ, List.getElem?_cons_zero, Region.wanted, if_true, hx]
      rw [Oper.upon_value, list_put, list_put]
      refine wpS_of_wp (Go.wp_mono h ?_)
      rintro e ⟨t, d⟩ w' ⟨hd, hq⟩
      simp only at hd
      subst hd
      have fin' : ∀ {e : Exit}, (e = .normal ∨ e = .ret) → (∃ r, (results fn t).run P w' = .ok r w' ∧ R r w') → (e = .normal ∨ e = .ret) ∧ (⟨t, []⟩ : Act).defers = [] ∧ cs' = { c₀ with mode := u' } :: cs ∧ ∃ r, (results fn (⟨t, []⟩ : Act).tmps).run P w' = .ok r w' ∧ R r w' := fun h1 h2 => ⟨h1, rfl, hcs, h2⟩
      cases e with
      | normal => exact fin' (.inl rfl) (by simpa [seqQ, Run, fin] using hq)
      | ret => exact fin' (.inr rfl) (by simpa [seqQ, Run, fin] using hq)
      | exit i => exact hq.elim
      | goto t => exact hq.elim
      | panic ch => exact hq.elim
      | outgrown => exact hq.elim
    show wpOpsS P _ _ [0, 1] _ _ _
    unfold wpOpsS
    simp only [List.getElem?_toArray, List.getElem?_cons_zero, Region.wanted, if_true, ex_recover_run]
    rcases hrec with ⟨h1, h2, h3⟩ | ⟨x, h1, h2, h3⟩
    · have : recoverD (c₀ :: cs) = none := by simp [recoverD, hu, h1]
      rw [this]
      subst h2
      refine hrest _ ?_
      rw [h3, ← h1, ← hu]
    · have : recoverD (c₀ :: cs) = some (x, { c₀ with mode := u' } :: cs) := by simp [recoverD, hu, h1, h3]
      rw [this]
      subst h2
      exact hrest _ rfl
  obtain ⟨e, a', cs', w', hq, harr⟩ := hS b [] rfl rfl
  rw [← henter] at harr
  obtain ⟨hcase, hd, rfl, v', hr, hR⟩ := hq
  rcases hcase with rfl | rfl
  · exact ⟨.returned v', u', w', _, ⟨v', rfl, rfl, hR⟩, comesIn_wide.2 (Steps.trans harr (.one step_end)), rfl, rfl, rfl, hd, fn, hf, hr⟩
  · obtain ⟨todo, hs⟩ := harr
    exact ⟨.returned v', u', w', _, ⟨v', rfl, rfl, hR⟩, comesIn_wide.2 hs, rfl, rfl, rfl, hd, fn, hf, hr⟩
end
namespace Rn
section
variable {f : FuncId} {P : Program} {ds : List Deferred} {Q : PostD} {l : List Value} {w : World} {cs : List Code}
/-- What the end of a function's code must show, where it defers. -/
def endR (R : Value → World → Prop) (RP : Chain → World → Prop) : Ending → World → Prop
  | .returned v, w => R v w
  | .panicked ch, w => RP ch w
  | .outgrown, _ => False
def finD (P : Program) (fn : Func) (R : Value → World → Prop) (RP : Chain → World → Prop) : PostD
  | .normal, ds, l, w => LeavesInM (FR none) 0 P fn l.toArray (endR R RP) ds .returning w
  | .ret, ds, l, w => LeavesInM (FR none) 0 P fn l.toArray (endR R RP) ds .returning w
  | .panic ch, ds, l, w => LeavesInM (FR none) 0 P fn l.toArray (endR R RP) ds (.panicking ch) w
  | _, _, _, _ => False
theorem does_ofD {fn : Func} {c : Code} {args : List Value} {R : Value → World → Prop} {RP : Chain → World → Prop} {n : Nat} (hf : P.funcs[f]? = some fn) (hn : fn.ntmps = n) (hb : fn.body = some c)
    (h : Run (f := f) (ro := none) P [] [c] (finD P fn R RP) (args ++ List.replicate (n - args.length) undef) w) : DoesP P f args.toArray w R RP := by
  refine Calls.mono (R := endR R RP) (calls_of hf hb ?_) (fun e w h => by cases e <;> exact h)
  have e : (args.toArray ++ Array.replicate (fn.ntmps - args.toArray.size) undef) = (args ++ List.replicate (n - args.length) undef).toArray := by
    rw [hn]; simp
  rw [e]
  refine wpF_mono h ?_
  intro e a w' hq
  have e2 : a.tmps.toList.toArray = a.tmps := by simp
  cases e with
  | normal => unfold seqQ RunX finD at hq; simp only [e2] at hq; exact hq
  | ret => unfold seqQ finD at hq; simp only [e2] at hq; exact hq
  | panic ch => unfold seqQ finD at hq; simp only [e2] at hq; exact hq
  | exit id => exact hq.elim
  | goto l => exact hq.elim
  | outgrown => exact hq.elim
theorem finD_ret {fn : Func} {R : Value → World → Prop} {RP : Chain → World → Prop} {v : Value} (h : (results fn l.toArray).run P w = .ok v w) (hR : R v w) : finD P fn R RP .ret [] l w := ⟨v, h, hR⟩
end
end Rn
end Go.Proofs.YtjoeklkmnfaabaaGreat
/-
  A round of a range over a function, and the statement: what the iterator owes, what the body owes; a panic in a round goes through.
-/
namespace Go.Proofs.YtjoeklkmnfaabaaGreat
open Go Go.RowKit
section round
variable {P : Program} {f : FuncId} {w : World}
end round

/-! ### A call of yield -/
def YieldP (P : Program) (L : Nat) (args : Array Value) (W : World) (R : Value → World → Prop) (RP : Chain → World → Prop) : Prop :=
  ∃ fn tmps assign body, (Instr.yield L args).run P W = .ok (.round L fn tmps assign body) W ∧
    RoundIn (FR none) 0 P L fn tmps assign body W fun e W' => match e with | .returned v => R v W' | .panicked ch => RP ch W' | .outgrown => False
theorem YieldP.mono {P : Program} {L : Nat} {args : Array Value} {W : World} {R R' : Value → World → Prop} {RP RP' : Chain → World → Prop} (h : YieldP P L args W R RP) (hr : ∀ v w, R v w → R' v w) (hp : ∀ c w, RP c w → RP' c w) : YieldP P L args W R' RP' := by
  obtain ⟨fn, t, a, b, h1, h2⟩ := h
  refine ⟨fn, t, a, b, h1, RoundIn.mono h2 fun e w he => ?_⟩
  cases e with
  | returned v => exact hr _ _ he
  | panicked c => exact hp _ _ he
  | outgrown => exact he
theorem Hp.putL {W : World} {L : Nat} {r : Loop} (o : Obj) (_ : W.heap[L]? = some (.loop r)) : Hp W (W.putObj L o) [L] [] :=
  ⟨rfl, rfl, rfl, by simp, fun k _ hk => World.putObj_heap_other (fun e => hk (by simp [e])), by simp, by simp⟩
/-- The record of a loop turns. -/
theorem Hp.loop {w0 W W' : World} {S : List Nat} {es : List Ent} {L : Nat} (H : Hp w0 W S es) (H' : Hp W W' [L] []) (hL : ∀ arr T z, W.heap[L]? ≠ some (.cells arr T z)) (hS : w0.heap.size ≤ L) : Hp w0 W' S es := by
  refine ⟨H'.os.trans H.os, H'.tape.trans H.tape, H'.output.trans H.output, Nat.le_trans H.size H'.size, ?_, ?_, H.apart⟩
  · intro k hk hkS
    rw [H'.frame k (by have := H.size; omega) (by simp; omega)]
    exact H.frame k hk hkS
  · intro i e he
    have h := H.ent i e he
    unfold EntOk at h ⊢
    split
    · rename_i hn; rw [hn] at h; exact h
    · rename_i g hg
      rw [hg] at h
      have hne : g ≠ L := by rintro rfl; exact hL _ _ _ h.1
      exact ⟨by rw [H'.frame g (Array.getElem?_eq_some_iff.1 h.1).1 (by simp [hne])]; exact h.1, h.2⟩
namespace Rn
section code
variable {f : FuncId} {P : Program} {ds : List Deferred} {Q : PostD} {l : List Value} {w : World} {cs : List Code}
end code
end Rn
end Go.Proofs.YtjoeklkmnfaabaaGreat
/-
  A call of yield within a region: in one order; behind operations that may be drawn in several orders.
-/
namespace Go.Proofs.YtjoeklkmnfaabaaGreat
open Go Go.RowKit
section yield
variable {ro : Option Nat} {n : Nat} {P : Program} {l : List Value} {ds : List Deferred} {w : World}
end yield
/-! ### A head in many orders -/
section head
variable {P : Program} {ops : Array Oper} {S : World → Prop} {n : Nat} {L : Array Bool → Act → World → Prop}
end head
namespace Rn
section code
variable {f : FuncId} {ro : Option Nat} {P : Program} {ds : List Deferred} {Q : PostD} {l : List Value} {w : World} {cs : List Code}
end code
end Rn
end Go.Proofs.YtjoeklkmnfaabaaGreat
/-
  A disk in memory: its row, its blocks' row, its waiting writes' row; laws for blocks.
-/
namespace Go.Proofs.YtjoeklkmnfaabaaGreat
open Go Go.RowKit

section laws
variable {P : Program} {ds : List Deferred} {Q : Post} {K : List Value → World → Prop} {all os : List Oper} {l : List Value} {w0 w w' : World} {S S' : List Nat} {es es' : List Ent} {ty t : TypeId} {pos : String} {af : Array Edge} {d : Tmp} {v : Value} {op : Op}
  {x y : Operand} {zs cs : List Value} {sz bytes : Nat} {agg : Bool}
/-- A part of an array behind an address. -/
theorem ex_cutArr {n : Nat} {e : TypeId} (ht : P.underlying t = some (.array n e)) (he : TyOk P e zs sz bytes agg) {a : Addr} {hi : Int} {kh : IntKind} {xh : Operand} (hx : ev l x = some (.pointer (some a))) (hh : ev l xh = some (.int kh hi)) (h : 0 ≤ hi ∧ hi ≤ n) (_ : 0 < n) :
    Ex P l (.slice t x none (some xh) none) ty w (.value (.slice (some a) hi.toNat n)) w := fun _ _ _ _ => by
  obtain ⟨b, rfl⟩ := Int.eq_ofNat_of_zero_le (show 0 ≤ hi by omega)
  have h2 : b ≤ n := by omega
  simp [execOp, rho_of hx, rho_of hh, Instr.sliceAt, run_underlying ht, run_sizeOf he, Instr.sliceBounds, Instr.sliceBound, asIntOf, h2, Instr.sureAddr, Addr.add_zero']
end laws

/-! ### Rows that a call may turn -/
/-! ### A disk -/
structure Dk where
  kept : List Blk
  wait : List (Nat × Blk)
  down : Bool
  armed : Nat
  kcap : Nat
  ksp : List Value
def kc (ks : List Blk) : List Value := ks.flatMap u8s
def wcell (p : Nat × Blk) : List Value := .int .i64 (p.1 : Int) :: u8s p.2
def wc (ws : List (Nat × Blk)) : List Value := ws.flatMap wcell
@[reducible] def dcells (gk : Nat) (gw : Option Nat) (n kq m cw : Nat) (dn : Bool) (ar : Nat) : List Value := [.slice (some ⟨gk, 0, none⟩) n kq, .slice (hd gw) m cw, .bool dn, .int .i64 (ar : Int)]
@[reducible] def dRows (gd gk : Nat) (gw : Option Nat) (cw : Nat) (sp : List Value) (D : Dk) : List Ent :=
  [(some gd, 89, dcells gk gw D.kept.length D.kcap D.wait.length cw D.down D.armed), (some gk, 91, kc D.kept ++ D.ksp), (gw, 93, wc D.wait ++ sp)]
structure DOk (D : Dk) (gw : Option Nat) (cw : Nat) (sp : List Value) : Prop where
  pos : 0 < D.kept.length
  most : D.kept.length ≤ 16384
  k64 : ∀ b ∈ D.kept, b.length = 64
  w64 : ∀ p ∈ D.wait, p.2.length = 64 ∧ p.1 < D.kept.length
  wcap : D.wait.length ≤ cw
  cap : cw * 65 ≤ (wc D.wait ++ sp).length
  nil : gw = none → cw = 0
  armed : D.armed < 2 ^ 63
/-- The disk stands there. -/
def DPost (w0 w' : World) (S : List Nat) (gd gk : Nat) (D : Dk) : Prop := ∃ gw cw sp, DOk D gw cw sp ∧ Hp w0 w' S (dRows gd gk gw cw sp D)
theorem kc_length {ks : List Blk} (h : ∀ b ∈ ks, b.length = 64) : (kc ks).length = ks.length * 64 := by
  induction ks with
  | nil => rfl
  | cons b ks ih =>
    have h1 := h b (by simp)
    have h2 := ih fun b hb => h b (List.mem_cons_of_mem _ hb)
    simp only [kc, List.flatMap_cons, List.length_append, List.length_cons, u8s_length] at h2 ⊢
    omega
theorem wc_one' (ws : List (Nat × Blk)) : (wc ws).all (·.oneCell') = true := by
  simp only [wc, List.all_flatMap, List.all_eq_true]
  intro p _ x hx
  rcases List.mem_cons.1 hx with rfl | h
  · rfl
  · exact List.all_eq_true.1 (u8s_one' _) x h
def zero64 : Blk := List.replicate 64 0
theorem kc_zero (n : Nat) : kc (List.replicate n zero64) = initL (u8s zero64) n := by simp [kc, initL, List.flatMap]
/-- A write that comes; a barrier. -/
def Dk.hit (D : Dk) : Dk × Bool := if D.armed < 1 then (D, false) else ({ D with armed := D.armed - 1 }, decide (D.armed - 1 = 0))
theorem DOk.hit {D : Dk} {gw : Option Nat} {cw : Nat} {sp : List Value} (h : DOk D gw cw sp) : DOk D.hit.1 gw cw sp := by
  obtain ⟨h1, h2, h3, h4, h5, h6, h7, h8⟩ := h
  unfold Dk.hit
  split
  · exact ⟨h1, h2, h3, h4, h5, h6, h7, h8⟩
  · exact ⟨h1, h2, h3, h4, h5, h6, h7, by show D.armed - 1 < 2 ^ 63; omega⟩
theorem DOk.fall {D : Dk} {gw : Option Nat} {cw : Nat} {sp : List Value} (h : DOk D gw cw sp) (x : Bool) : DOk { D with down := x } gw cw sp :=
  ⟨h.1, h.2, h.3, h.4, h.5, h.6, h.7, h.8⟩
/-- A write. -/
def Dk.put (D : Dk) (n : Nat) (b : Blk) : Dk := { D with wait := D.wait ++ [(n, b)] }
def Dk.write (D : Dk) (a : Int) (b : Blk) : Dk × Nat :=
  if D.down = true then (D, 40) else if a < 0 ∨ (D.kept.length : Int) ≤ a then (D, 41) else if b.length ≠ 64 then (D, 1)
  else if (D.put a.toNat b).hit.2 = true then ({ (D.put a.toNat b).hit.1 with down := true }, 40) else ((D.put a.toNat b).hit.1, 0)
theorem wcell_length {n : Nat} {b : Blk} (h : b.length = 64) : (wcell (n, b)).length = 65 := by simp [wcell, u8s_length, h]
theorem wcell_one' (n : Nat) (b : Blk) : (wcell (n, b)).all (·.oneCell') = true := by
  have := wc_one' [(n, b)]
  rwa [show wc [(n, b)] = wcell (n, b) from List.append_nil _] at this
/-- Behind a call that told these rows anew. -/
theorem DPost.of {w0 w w' : World} {S : List Nat} {gd gk : Nat} {gw : Option Nat} {cw : Nat} {sp : List Value} {D D' : Dk} (H : Hp w0 w S (dRows gd gk gw cw sp D)) (h : DPost w w' (bl (dRows gd gk gw cw sp D)) gd gk D') : DPost w0 w' S gd gk D' := by
  obtain ⟨g, c, s, ho, h⟩ := h
  exact ⟨g, c, s, ho, (H.callr [0, 1, 2] rfl h).pick [3, 4, 5] (by decide)⟩
/-! The other calls. -/
def Dk.start (D : Dk) : Dk := if D.down = true then { D with wait := [], armed := 0, down := false } else D
def flush (ks : List Blk) (ws : List (Nat × Blk)) : List Blk := ws.foldl (fun ks p => ks.set p.1 p.2) ks
theorem wc_get {ws : List (Nat × Blk)} {n : Nat} (h : ∀ p ∈ ws, p.2.length = 64 ∧ p.1 < n) {q : Nat} (hq : q < ws.length) (j : Nat) (u : Value) (hu : (wcell ws[q])[j]? = some u) : (wc ws)[q * 65 + j]? = some u := by
  induction ws generalizing q with
  | nil => simp at hq
  | cons p ws ih =>
    have hp := (h p (by simp)).1
    have hl : (wcell p).length = 65 := by obtain ⟨a, b⟩ := p; exact wcell_length hp
    cases q with
    | zero =>
      have hj : j < (wcell p).length := (List.getElem?_eq_some_iff.1 hu).1
      simp only [wc, List.flatMap_cons, Nat.zero_mul, Nat.zero_add]
      rw [List.getElem?_append_left hj]
      exact hu
    | succ q =>
      have := ih (fun p hp => h p (List.mem_cons_of_mem _ hp)) (q := q) (by simpa using hq) hu
      simp only [wc, List.flatMap_cons] at this ⊢
      rw [List.getElem?_append_right (by omega), ← this]
      congr 1
      omega
/-! What a block shows; what a fall leaves. -/
def Dk.show (D : Dk) (n : Nat) : Blk := (flush D.kept D.wait).getD n []
def Dk.read (D : Dk) (a : Int) : Blk × Nat := if D.down = true then ([], 40) else if a < 0 ∨ (D.kept.length : Int) ≤ a then ([], 41) else (D.show a.toNat, 0)
def clampK (keep : List Int) (q : Nat) : Nat := (min (max (keep.getD q 0) 0) 64).toNat
theorem clampK_le (keep : List Int) (q : Nat) : clampK keep q ≤ 64 := by unfold clampK; omega
def tears (ks : List Blk) (ws : List (Nat × Blk)) (keep : List Int) : Nat → List Blk
  | 0 => ks
  | q + 1 => match ws[q]? with
    | some p => (tears ks ws keep q).set p.1 (p.2.take (clampK keep q) ++ ((tears ks ws keep q).getD p.1 []).drop (clampK keep q))
    | none => tears ks ws keep q
theorem tears_length (ks : List Blk) (ws : List (Nat × Blk)) (keep : List Int) (q : Nat) : (tears ks ws keep q).length = ks.length := by
  induction q with
  | zero => rfl
  | succ q ih => simp only [tears]; split <;> simp [ih]
theorem tears_64 {ks : List Blk} {ws : List (Nat × Blk)} {keep : List Int} (h : ∀ b ∈ ks, b.length = 64) (hw : ∀ p ∈ ws, p.2.length = 64 ∧ p.1 < ks.length) (q : Nat) : ∀ b ∈ tears ks ws keep q, b.length = 64 := by
  induction q with
  | zero => exact h
  | succ q ih =>
    simp only [tears]
    split
    · rename_i p hp
      intro b hb
      rcases List.mem_or_eq_of_mem_set hb with h1 | h1
      · exact ih b h1
      · have hpw := hw p (List.mem_of_getElem? hp)
        have hc := clampK_le keep q
        have hlt : p.1 < (tears ks ws keep q).length := by rw [tears_length]; exact hpw.2
        have h64 := ih _ (List.getElem_mem hlt)
        rw [h1, List.getD_eq_getElem?_getD, List.getElem?_eq_getElem hlt, Option.getD_some, List.length_append, List.length_take, List.length_drop]
        omega
    · exact ih
def Dk.crash (D : Dk) (keep : List Int) : Dk := { D with kept := tears D.kept D.wait keep D.wait.length, wait := [], down := true }
theorem kc_part {ks : List Blk} (h : ∀ b ∈ ks, b.length = 64) {n : Nat} (hn : n < ks.length) {b : Blk} (hb : b.length ≤ 64) : putAt (kc ks) (n * 64) (u8s b) = kc (ks.set n (b ++ (ks.getD n []).drop b.length)) := by
  induction ks generalizing n with
  | nil => simp at hn
  | cons c ks ih =>
    have hc := h c (by simp)
    have hcl : (u8s c).length = 64 := by rw [u8s_length, hc]
    cases n with
    | zero =>
      simp only [putAt, Nat.zero_mul, List.take_zero, List.nil_append, Nat.zero_add, kc, List.flatMap_cons, List.set_cons_zero, u8s_length, List.getD_cons_zero, u8s_append, List.append_assoc]
      rw [List.drop_append_of_le_length (by omega)]
      congr 2
      simp [u8s, List.map_drop]
    | succ n =>
      have := ih (fun b hb => h b (List.mem_cons_of_mem _ hb)) (n := n) (by simpa using hn)
      simp only [putAt, kc, List.flatMap_cons, List.set_cons_succ, List.getD_cons_succ] at this ⊢
      rw [show (n + 1) * 64 = 64 + n * 64 by omega, show 64 + n * 64 + (u8s b).length = 64 + (n * 64 + (u8s b).length) by omega, ← List.drop_drop, List.drop_left' hcl, List.take_append, hcl, List.take_of_length_le (by omega), Nat.add_sub_cancel_left, List.append_assoc, List.append_assoc]
      rw [List.append_assoc] at this
      rw [this]
/-- Numbers in memory. -/
def i64s (l : List Int) : List Value := l.map fun n => .int .i64 n
theorem i64s_get {l : List Int} {i : Nat} (h : i < l.length) : (i64s l)[i]? = some (.int .i64 l[i]) := by simp [i64s, h]
section
variable {P : Program} {ds : List Deferred} {Q : Post} {K : List Value → World → Prop} {all os : List Oper} {l : List Value} {w0 w w' : World} {S : List Nat} {es : List Ent} {ty t : TypeId} {pos : String} {af : Array Edge} {d : Tmp} {x y : Operand} {zs : List Value} {bytes : Nat} {agg : Bool}
theorem ops_copy {e : TypeId} (ht : P.underlying t = some (.slice e)) (he : TyOk P e zs 1 bytes agg) (H : Hp w0 w S es) (i : Nat) {g o n dc sc : Nat} {a : Addr} {T : TypeId} {cs vs : List Value} (hx : ev l x = some (.slice (some ⟨g, o, none⟩) n dc)) (hy : ev l y = some (.slice (some a) n sc))
    (hi : es[i]? = some (some g, T, cs)) (hn : vs.length = n) (hsrc : ∀ j u, vs[j]? = some u → w.cell? (a.add j) = some u) (hfit : o + n ≤ cs.length) (h1 : vs.all (·.oneCell') = true)
    (k : ∀ w', Hp w0 w' S (es.set i (some g, T, putAt cs o vs)) → Ops P ds all K Q os (l.set d (.int .i64 (n : Int))) w') :
    Ops P ds all K Q (⟨some d, .call { callee := .builtin .copy, args := #[x, y], argTypes := #[t, t] }, ty, pos, af, none⟩ :: os) l w := by
  obtain ⟨inf, z, dd, hinf, hz, hzs, hsz, hby, _, _⟩ := he.ex
  have hr := run_copy_row (P := P) w t t ty e g o n dc a n sc cs.toArray T vs ht (by rw [hinf]; simp [hsz]) (H.at hi) (by rw [hn]; simp) hsrc (by rw [hn]; simpa using hfit) (fun v hv => List.all_eq_true.1 h1 v hv)
  have e1 : (cs.toArray.toList.take o ++ vs ++ cs.toArray.toList.drop (o + vs.length)).toArray = (putAt cs o vs).toArray := by simp [putAt]
  rw [e1, hn] at hr
  refine ops_val (w' := w.setRow g (putAt cs o vs).toArray) ?_ (k _ (H.setRow hi _))
  intro _ _ _ _
  simp [execOp, resolve, invoke, builtin, rho_of hx, rho_of hy, hr, goInt]
end
/-! A list that grows into a row of its own, while the old one stands. -/
section
variable {P : Program} {ds : List Deferred} {Q : Post} {K : List Value → World → Prop} {all os : List Oper} {l : List Value} {w0 w w' : World} {S : List Nat} {es : List Ent} {ty t : TypeId} {pos : String} {af : Array Edge} {d : Tmp} {x y : Operand} {zs : List Value} {sz bytes : Nat} {agg : Bool}
end
/-! A script in memory. -/
structure OpV where
  k : Int
  a : Int
  m : Int
  x : UInt8
  B : Option Addr
  keep : List Int
  kcap : Nat
@[reducible] def OpV.cells (o : OpV) : List Value := [.int .i64 o.k, .int .i64 o.a, .int .i64 o.m, .int .u8 (o.x.toNat : Int), .slice o.B o.keep.length o.kcap]
def opCells (s : List OpV) : List Value := s.flatMap OpV.cells
structure ScOk (w : World) (A : Option Addr) (s : List OpV) : Prop where
  rd : Rd w A s.length 5 (opCells s)
  most : s.length ≤ 2513174816128
  each : ∀ o ∈ s, -9223372036854775808 ≤ o.m ∧ o.m ≤ 9223372036854775807 ∧ Rd w o.B o.keep.length 1 (i64s o.keep)
/-! What an armed disk does. -/
/-! Lists of bytes in memory. -/
def Lst (w : World) (es : List Ent) (xs : List Value) (bs : List Blk) : Prop :=
  xs.length = bs.length ∧ ∀ i (h : i < bs.length), 0 < bs[i].length ∧ ∃ (B : Option Addr) (c : Nat), xs[i]? = some (.slice B bs[i].length c) ∧ Rd w B bs[i].length 1 (u8s bs[i]) ∧ ∀ p, B = some p → p.block ∉ bl es
theorem apt_to {w w' : World} {es es' : List Ent} {B : Option Addr} {n : Nat} {xs : List Value} (hr : Rd w B n 1 xs) (hn : 0 < n) (ha : ∀ p, B = some p → p.block ∉ bl es) (H : Hp w w' (bl es) es') : ∀ p, B = some p → p.block ∉ bl es' := by
  intro p hp hb
  obtain ⟨e, he, hg⟩ := List.mem_filterMap.1 hb
  obtain ⟨i, hi⟩ := List.getElem?_of_mem he
  obtain ⟨g, T, cs⟩ := e
  simp only at hg
  subst hg
  have h1 := H.place hi
  have h2 : 0 < xs.length := by rw [hr.len]; omega
  have h3 := World.block_lt_of_cell? w _ (hr.cells p hp 0 _ (List.getElem?_eq_getElem h2))
  rw [Addr.add_zero'] at h3
  rcases h1 with h1 | h1
  · exact ha p hp h1
  · omega
theorem Lst.to {w w' : World} {es es' : List Ent} {xs : List Value} {bs : List Blk} (h : Lst w es xs bs) (H : Hp w w' (bl es) es') : Lst w' es' xs bs := by
  refine ⟨h.1, fun i hi => ?_⟩
  obtain ⟨h0, B, c, h1, h2, h3⟩ := h.2 i hi
  exact ⟨h0, B, c, h1, h2.to H h3, apt_to h2 h0 h3 H⟩
theorem Lst.less {w : World} {es es' : List Ent} {xs : List Value} {bs : List Blk} (h : Lst w es xs bs) (hs : ∀ b ∈ bl es', b ∈ bl es) : Lst w es' xs bs := by
  refine ⟨h.1, fun i hi => ?_⟩
  obtain ⟨h0, B, c, h1, h2, h3⟩ := h.2 i hi
  exact ⟨h0, B, c, h1, h2, fun p hp hb => h3 p hp (hs _ hb)⟩
theorem Lst.nil (w : World) (es : List Ent) : Lst w es [] [] := ⟨rfl, fun i h => by cases h⟩
/-! Where a row has room behind. -/
theorem putAt_app {cs sp vs : List Value} {o : Nat} (h : o + vs.length ≤ cs.length) : putAt (cs ++ sp) o vs = putAt cs o vs ++ sp := by
  simp only [putAt]
  rw [List.take_append_of_le_length (by omega), List.drop_append_of_le_length h, List.append_assoc, List.append_assoc, List.append_assoc]
theorem kc_partA {ks : List Blk} {sp : List Value} (h : ∀ b ∈ ks, b.length = 64) {n : Nat} (hn : n < ks.length) {b : Blk} (hb : b.length ≤ 64) : putAt (kc ks ++ sp) (n * 64) (u8s b) = kc (ks.set n (b ++ (ks.getD n []).drop b.length)) ++ sp := by
  rw [putAt_app (by rw [kc_length h, u8s_length]; omega), kc_part h hn hb]
/-! Forks. -/
def Fresh (m : Nat) (xs : List Value) : Prop := ∀ (i : Nat) (p : Addr) (k c : Nat), xs[i]? = some (.slice (some p) k c) → m ≤ p.block
theorem Fresh.nil (m : Nat) : Fresh m [] := fun i p k c h => by simp at h
/-- Rows that stood before these blocks were made. -/
theorem Lst.wide {w w0 : World} {es es2 : List Ent} {S : List Nat} {xs : List Value} {bs : List Blk} (h : Lst w es xs bs) (hf : Fresh w0.heap.size xs) (H0 : Hp w0 w0 S es2) : Lst w es2 xs bs := by
  refine ⟨h.1, fun i hi => ?_⟩
  obtain ⟨h0, B, c, h1, h2, h3⟩ := h.2 i hi
  refine ⟨h0, B, c, h1, h2, fun p hp hb => ?_⟩
  subst hp
  have h4 := hf i p _ _ h1
  obtain ⟨e, he, hg⟩ := List.mem_filterMap.1 hb
  obtain ⟨j, hj⟩ := List.getElem?_of_mem he
  obtain ⟨g, T, cs⟩ := e
  simp only at hg
  subst hg
  have := H0.lt hj
  omega
end Go.Proofs.YtjoeklkmnfaabaaGreat
/- Walks of layer 2, printed by wip/gen/codec.py. -/
namespace Go.Proofs.YtjoeklkmnfaabaaGreat
open Go Go.RowKit
set_option linter.unusedVariables false
attribute [local irreducible] Still Ops Does Cd
theorem pl89 : placesOf Tryz.prog 89 = some [(0, 1), (1, 1), (2, 1), (3, 1)] := by kernel_rfl
set_option maxRecDepth 100000 in
set_option maxHeartbeats 4000000 in
theorem newD_any (n : Nat) (w0 : World) (h1 : 1 ≤ n) (h2 : n ≤ 16384) :
    Does Tryz.prog 8 #[.int .i64 (n : Int)] w0 (fun r w' => ∃ gd gk, r = .tuple #[.pointer (some ⟨gd, 0, none⟩), .int .i64 0] ∧ Hp w0 w' [] (dRows gd gk none 0 [] ⟨List.replicate n zero64, [], false, 0, n, []⟩)) := by
  refine does_of Tryz.func8 Tryz.ntmps8 rfl ?_
  refine nR14 ?_
  have H := Hp.refl w0
  refine run_seq ?_
  refine run_region ?_
  refine ops_val (ex_assign rfl) ?_
  refine ops_val (ex_assign rfl) ?_
  refine ops_nil ?_
  refine nR14 ?_
  refine run_seq ?_
  refine run_seq ?_
  refine run_region ?_
  refine ops_val (ex_move rfl) ?_
  refine ops_false (ex_lss rfl rfl) (by omega) ?_
  refine ops_val (ex_move rfl) ?_
  refine nO14 ?_
  refine ops_yes rfl ?_
  refine ops_val (ex_move rfl) ?_
  refine ops_yes rfl ?_
  refine ops_false (ex_gtr rfl rfl) (by omega) ?_
  refine ops_val (ex_pick_f rfl rfl) ?_
  refine ops_nil ?_
  refine nR14 ?_
  refine run_cond_false rfl ?_
  refine run_skip ?_
  refine run_seq ?_
  refine run_region ?_
  refine ops_val (ex_move rfl) ?_
  refine ops_makeN Tryz.underlying86 ty91 H rfl rfl (n := n) (c := n) (Nat.le_refl _) (by omega) (by omega) ?_
  intro w1 gk H1 hgk
  refine ops_val (ex_build ty89 pl89 rfl rfl) ?_
  refine ops_box rfl rfl H1 ?_
  intro w2 gd H2 hgd
  refine nO14 ?_
  refine ops_val (ex_assign rfl) ?_
  refine ops_val (ex_assign rfl) ?_
  refine ops_nil ?_
  refine nR14 ?_
  refine run_ret ?_
  refine fin_ret2 rfl rfl rfl ?_
  have e1 : kc (List.replicate n zero64) = initL (u8s zero64) n := kc_zero n
  refine ⟨gd, gk, rfl, ?_⟩
  have HH := (H2.pick [1, 0] (by decide)).nil 93
  simp only [dRows, List.length_replicate, List.append_nil]
  rw [e1]
  exact HH
theorem newOk {n : Nat} (h1 : 1 ≤ n) (h2 : n ≤ 16384) : DOk ⟨List.replicate n zero64, [], false, 0, n, []⟩ none 0 [] :=
  ⟨by simp; omega, by simpa using h2, fun b hb => by rw [(List.mem_replicate.1 hb).2]; rfl, fun p hp => (by cases hp), Nat.le_refl _, by simp, fun _ => rfl, by show 0 < 2 ^ 63; decide⟩
end Go.Proofs.YtjoeklkmnfaabaaGreat
/- Walks of layer 2, printed by wip/gen/codec.py. -/
namespace Go.Proofs.YtjoeklkmnfaabaaGreat
open Go Go.RowKit
set_option linter.unusedVariables false
attribute [local irreducible] Still Ops Does Cd
end Go.Proofs.YtjoeklkmnfaabaaGreat
/- Walks of layer 2, printed by wip/gen/codec.py. -/
namespace Go.Proofs.YtjoeklkmnfaabaaGreat
open Go Go.RowKit
set_option linter.unusedVariables false
attribute [local irreducible] Still Ops Does Cd
theorem getL {α : Type} {l m : List α} {n : Nat} {u : α} (h : l[n]? = some u) : (l ++ m)[n]? = some u := by
  rw [List.getElem?_append_left (List.getElem?_eq_some_iff.1 h).1]; exact h
end Go.Proofs.YtjoeklkmnfaabaaGreat
/- Walks of layer 2, printed by wip/gen/codec.py. -/
namespace Go.Proofs.YtjoeklkmnfaabaaGreat
open Go Go.RowKit
set_option linter.unusedVariables false
attribute [local irreducible] Still Ops Does Cd
set_option maxRecDepth 100000 in
set_option maxHeartbeats 4000000 in
theorem crash_any (gd gk : Nat) (gw : Option Nat) (cw : Nat) (sp : List Value) (D : Dk) (w0 : World) (H0 : Hp w0 w0 (bl (dRows gd gk gw cw sp D)) (dRows gd gk gw cw sp D)) (hD : DOk D gw cw sp) (B : Option Addr) (keep : List Int) (c : Nat) (hr : Rd w0 B keep.length 1 (i64s keep)) (hsep : 0 < keep.length → ∀ p, B = some p → p.block ∉ bl (dRows gd gk gw cw sp D)) (hm : D.wait.length ≤ 2932000000000) :
    Does Tryz.prog 9 #[.pointer (some ⟨gd, 0, none⟩), .slice B keep.length c] w0 (fun r w' => r = .int .i64 0 ∧ DPost w0 w' (bl (dRows gd gk gw cw sp D)) gd gk (D.crash keep)) := by
  refine does_of Tryz.func9 Tryz.ntmps9 rfl ?_
  refine nR50 ?_
  have H := H0
  obtain ⟨hpos, hmost, hk64, hw64, hwcap, hcap, hnil, harm⟩ := hD
  have hD : DOk D gw cw sp := ⟨hpos, hmost, hk64, hw64, hwcap, hcap, hnil, harm⟩
  refine run_seq ?_
  refine run_region ?_
  refine ops_val (ex_assign rfl) ?_
  refine ops_nil ?_
  refine nR50 ?_
  refine run_seq ?_
  refine run_seq ?_
  refine run_region ?_
  refine ops_val (ex_move rfl) ?_
  refine ops_false (ex_eql_nil_ptr Tryz.underlying27 rfl) (by simp) ?_
  refine ops_nil ?_
  refine nR50 ?_
  refine run_cond_false rfl ?_
  refine run_skip ?_
  refine run_seq ?_
  refine run_seq ?_
  refine run_region ?_
  refine ops_val (ex_move rfl) ?_
  refine ops_val (ex_nilCheck rfl) ?_
  refine ops_val (ex_fieldAddr fl89_1 rfl) ?_
  refine ops_val (ex_load ty87 rfl (H.cell (i := 0) rfl rfl)) ?_
  refine nO50 ?_
  refine ops_val (ex_len_slice Tryz.underlying87 rfl) ?_
  refine ops_val (ex_move rfl) ?_
  refine ops_nil ?_
  refine nR50 ?_
  refine run_block ?_
  refine run_loop (fun nQ lQ w => ∃ (q : Nat) (y : Int) (ks : List Blk), D.wait.length - q = nQ ∧ Fits [some (.pointer (some ⟨gd, 0, none⟩)), some (.slice B keep.length c), none, none, none, none, none, none, none, none, none, none, none, some (.slice (hd gw) D.wait.length cw), some (.int .i64 D.wait.length), some (.int .i64 y), none, none, none, none, none, none, none, none, none, none, none, none, none, none, none, none, none, none, none, none, none, none, none, none, none, none, none, none, none, none, none, none, none, none] lQ ∧ y = q ∧ q ≤ D.wait.length ∧ ks = tears D.kept D.wait keep q ∧ Hp w0 w (bl (dRows gd gk gw cw sp D)) (dRows gd gk gw cw sp { D with kept := ks })) (D.wait.length) ?_ ?_
  · exact ⟨0, _, _, rfl, (fs (fs (fn (fn (fn (fn (fn (fn (fn (fn (fn (fn (fn (fs (fs (fs (fn (fn (fn (fn (fn (fn (fn (fn (fn (fn (fn (fn (fn (fn (fn (fn (fn (fn (fn (fn (fn (fn (fn (fn (fn (fn (fn (fn (fn (fn (fn (fn (fn (fn f0)))))))))))))))))))))))))))))))))))))))))))))))))), rfl, Nat.zero_le _, rfl, H⟩
  · rintro nQ lQ w1 ⟨q, y, ks, rfl, hfit, rfl, hq, hks, H1⟩
    obtain ⟨j, rfl⟩ := hfit.open
    refine nR50 ?_
    clear hfit
    have hkl : ks.length = D.kept.length := by rw [hks, tears_length]
    have hk6 : ∀ b ∈ ks, b.length = 64 := by rw [hks]; exact tears_64 hk64 hw64 _
    refine run_seq ?_
    refine run_region ?_
    refine ops_test (ex_lss rfl rfl) (fun hp16 => ?_) (fun hp16 => ?_)
    · have hql : q < D.wait.length := by omega
      have hwq := hw64 D.wait[q] (List.getElem_mem hql)
      obtain ⟨g7, rfl⟩ : ∃ x, gw = some x := by
        cases gw with
        | none => have := hnil rfl; omega
        | some x => exact ⟨x, rfl⟩
      have hcl : (wcell D.wait[q]).length = 65 := wcell_length hwq.1
      have hcle := clampK_le keep q
      refine ops_nil ?_
      refine nR50 ?_
      refine run_seq ?_
      refine run_cond_true rfl ?_
      refine run_skip ?_
      refine run_seq ?_
      refine run_block ?_
      refine run_seq ?_
      refine run_region ?_
      refine ops_val (ex_move rfl) ?_
      refine ops_val (ex_idx Tryz.underlying87 ty93 rfl rfl rfl hql rfl) ?_
      rw [addz]
      refine ops_val (ex_loadN ty93 rfl (vs := wcell D.wait[q]) hcl (cells_of H1 (i := 2) rfl (fun j u hu => getL (wc_get hw64 hql j u hu)))) ?_
      refine ops_alloc ty93 H1 ?_
      intro w2 g2 H2 hg2
      refine nO50 ?_
      refine ops_val (ex_assign rfl) ?_
      refine ops_store ty93 H2 3 rfl rfl rfl (by simp [Value.cells]) hcl (by rw [hcl]; decide) (wcell_one' _ _) ?_
      intro w3 H3
      change Hp _ _ _ [_, _, _, _] at H3
      rw [putAt_all (by rw [hcl]; rfl)] at H3
      refine ops_nil ?_
      refine nR50 ?_
      refine run_seq ?_
      refine run_region ?_
      refine ops_val (ex_assign rfl) ?_
      refine ops_nil ?_
      refine nR50 ?_
      refine run_seq ?_
      refine run_seq ?_
      refine run_region ?_
      refine ops_val (ex_move rfl) ?_
      refine ops_val (ex_move rfl) ?_
      refine ops_val (ex_len_slice Tryz.underlying50 rfl) ?_
      refine ops_test (ex_lss rfl rfl) (fun hp23 => ?_) (fun hp23 => ?_)
      · have hqk : q < keep.length := by omega
        obtain ⟨kb, rfl⟩ := hr.some_ (by omega)
        have hck : min (max keep[q] 0) 64 = ((clampK keep q : Nat) : Int) := by unfold clampK; rw [List.getD_eq_getElem?_getD, List.getElem?_eq_getElem hqk, Option.getD_some]; omega
        refine ops_nil ?_
        refine nR50 ?_
        refine run_cond_true rfl ?_
        refine run_region ?_
        refine ops_val (ex_move rfl) ?_
        refine ops_val (ex_move rfl) ?_
        refine ops_val (ex_idx Tryz.underlying50 ty3 rfl rfl rfl hqk (Nat.mul_one _)) ?_
        refine ops_val (ex_load ty3 rfl ((hr.to H3 (hsep (by omega))).cells kb rfl q _ (i64s_get hqk))) ?_
        refine nO50 ?_
        refine ops_val (ex_max rfl rfl) ?_
        refine ops_val (ex_min rfl rfl) ?_
        rw [hck]
        refine ops_val (ex_assign rfl) ?_
        refine ops_nil ?_
        refine nR50 ?_
        refine run_mixZ 12 [(true, 0), (true, 1), (true, 2), (true, 3), (true, 4), (true, 5), (true, 6), (true, 7), (true, 8), (true, 9), (true, 10), (true, 11), (false, 12)] H3 [0, 3] mixed (by decide) (by kernel_rfl) ?_
        rintro w4 hw4
        have H4 := Hp.drew H3; rw [← hw4] at H4
        refine mixz_p rfl ?_
        refine mix1_val (fun wz hz => ex_move rfl) ?_
        refine mixz_p rfl ?_
        refine mix1_val (fun wz hz => ex_nilCheck rfl) ?_
        refine mixz_p rfl ?_
        refine mix1_val (fun wz hz => ex_fieldAddr fl89_0 rfl) ?_
        refine mixz_p rfl ?_
        refine mix1_val (fun wz hz => ex_load ty86 rfl (hz.cell (i := 0) rfl rfl)) ?_
        refine nZ50 ?_
        refine mixz_p rfl ?_
        refine mix1_val (fun wz hz => ex_fieldAddr fl93_0 rfl) ?_
        refine mixz_p rfl ?_
        refine mix1_val (fun wz hz => ex_load ty3 rfl ((hz.cell (i := 1) rfl (show (wcell D.wait[q])[0]? = _ from rfl)))) ?_
        refine mixz_p rfl ?_
        refine mix1_val (fun wz hz => ex_idx Tryz.underlying86 ty91 rfl rfl rfl (show D.wait[q].1 < ks.length by omega) rfl) ?_
        rw [addz]
        refine mixz_p rfl ?_
        refine mix1_val (fun wz hz => ex_move rfl) ?_
        refine nZ50 ?_
        refine mixz_p rfl ?_
        refine mix1_val (fun wz hz => ex_cutArr Tryz.underlying91 ty5 rfl rfl (by omega) (by decide)) ?_
        refine mixz_p rfl ?_
        refine mix1_val (fun wz hz => ex_fieldAddr fl93_1 rfl) ?_
        refine mixz_p rfl ?_
        refine mix1_val (fun wz hz => ex_move rfl) ?_
        refine mixz_p rfl ?_
        refine mix1_val (fun wz hz => ex_cutArr Tryz.underlying91 ty5 rfl rfl (by omega) (by decide)) ?_
        refine nZ50 ?_
        refine mixz_o rfl ?_
        have hcpl : (D.wait[q].2.take (clampK keep q)).length = clampK keep q := by rw [List.length_take]; omega
        refine ops_copy Tryz.underlying73 ty5 H4 1 (vs := u8s (D.wait[q].2.take (clampK keep q))) rfl rfl rfl (by rw [u8s_length, hcpl]; rfl) (cells_of H4 (i := 3) (o := 1) rfl (fun j u hu => ?_)) (show _ ≤ (kc ks ++ D.ksp).length by rw [List.length_append, kc_length hk6, Int.toNat_natCast]; omega) (u8s_one' _) ?_
        · rw [u8s_take, List.getElem?_take] at hu
          split at hu
          · rw [Nat.add_comm]; exact hu
          · cases hu
        intro w5 H5
        change Hp _ _ _ [_, _, _, _] at H5
        rw [kc_partA hk6 (by omega) (by omega), hcpl] at H5
        refine ops_nil ?_
        refine ⟨fun hne => absurd rfl hne, ?_⟩
        refine nZ50 ?_
        refine mixz_nil ?_
        refine nR50 ?_
        refine run_nil (blk_normal ?_)
        refine run_region ?_
        refine ops_val (ex_add rfl rfl (IntWalk.i64_in _ (by omega))) ?_
        refine ops_val (ex_move rfl) ?_
        refine ops_nil ?_
        refine nR50 ?_
        refine run_nil (rnd_normal ?_)
        have hks2 : ks.set D.wait[q].1 (D.wait[q].2.take (clampK keep q) ++ (ks.getD D.wait[q].1 []).drop (clampK keep q)) = tears D.kept D.wait keep (q + 1) := by simp only [tears]; rw [List.getElem?_eq_getElem hql, hks]
        refine ⟨D.wait.length - (q + 1), by omega, q + 1, _, ks.set D.wait[q].1 (D.wait[q].2.take (clampK keep q) ++ (ks.getD D.wait[q].1 []).drop (clampK keep q)), rfl, (fs (fs (fn (fn (fn (fn (fn (fn (fn (fn (fn (fn (fn (fs (fs (fs (fn (fn (fn (fn (fn (fn (fn (fn (fn (fn (fn (fn (fn (fn (fn (fn (fn (fn (fn (fn (fn (fn (fn (fn (fn (fn (fn (fn (fn (fn (fn (fn (fn (fn f0)))))))))))))))))))))))))))))))))))))))))))))))))), rfl, by omega, hks2, ?_⟩
        have HF := H5.pick [0, 1, 2] (by decide)
        simp only [dRows, List.length_set]
        exact HF
      · have hck : (0 : Int) = ((clampK keep q : Nat) : Int) := by unfold clampK; rw [List.getD_eq_getElem?_getD, List.getElem?_eq_none (by omega)]; rfl
        refine ops_nil ?_
        refine nR50 ?_
        refine run_cond_false rfl ?_
        refine run_skip ?_
        refine run_mixZ 12 [(true, 0), (true, 1), (true, 2), (true, 3), (true, 4), (true, 5), (true, 6), (true, 7), (true, 8), (true, 9), (true, 10), (true, 11), (false, 12)] H3 [0, 3] mixed (by decide) (by kernel_rfl) ?_
        rintro w4 hw4
        have H4 := Hp.drew H3; rw [← hw4] at H4
        refine mixz_p rfl ?_
        refine mix1_val (fun wz hz => ex_move rfl) ?_
        refine mixz_p rfl ?_
        refine mix1_val (fun wz hz => ex_nilCheck rfl) ?_
        refine mixz_p rfl ?_
        refine mix1_val (fun wz hz => ex_fieldAddr fl89_0 rfl) ?_
        refine mixz_p rfl ?_
        refine mix1_val (fun wz hz => ex_load ty86 rfl (hz.cell (i := 0) rfl rfl)) ?_
        refine nZ50 ?_
        refine mixz_p rfl ?_
        refine mix1_val (fun wz hz => ex_fieldAddr fl93_0 rfl) ?_
        refine mixz_p rfl ?_
        refine mix1_val (fun wz hz => ex_load ty3 rfl ((hz.cell (i := 1) rfl (show (wcell D.wait[q])[0]? = _ from rfl)))) ?_
        refine mixz_p rfl ?_
        refine mix1_val (fun wz hz => ex_idx Tryz.underlying86 ty91 rfl rfl rfl (show D.wait[q].1 < ks.length by omega) rfl) ?_
        rw [addz]
        refine mixz_p rfl ?_
        refine mix1_val (v := .int .i64 ((clampK keep q : Nat) : Int)) (fun wz hz => ex_move (by rw [← hck]; rfl)) ?_
        refine nZ50 ?_
        refine mixz_p rfl ?_
        refine mix1_val (fun wz hz => ex_cutArr Tryz.underlying91 ty5 rfl rfl (by omega) (by decide)) ?_
        refine mixz_p rfl ?_
        refine mix1_val (fun wz hz => ex_fieldAddr fl93_1 rfl) ?_
        refine mixz_p rfl ?_
        refine mix1_val (v := .int .i64 ((clampK keep q : Nat) : Int)) (fun wz hz => ex_move (by rw [← hck]; rfl)) ?_
        refine mixz_p rfl ?_
        refine mix1_val (fun wz hz => ex_cutArr Tryz.underlying91 ty5 rfl rfl (by omega) (by decide)) ?_
        refine nZ50 ?_
        refine mixz_o rfl ?_
        have hcpl : (D.wait[q].2.take (clampK keep q)).length = clampK keep q := by rw [List.length_take]; omega
        refine ops_copy Tryz.underlying73 ty5 H4 1 (vs := u8s (D.wait[q].2.take (clampK keep q))) rfl rfl rfl (by rw [u8s_length, hcpl]; rfl) (cells_of H4 (i := 3) (o := 1) rfl (fun j u hu => ?_)) (show _ ≤ (kc ks ++ D.ksp).length by rw [List.length_append, kc_length hk6, Int.toNat_natCast]; omega) (u8s_one' _) ?_
        · rw [u8s_take, List.getElem?_take] at hu
          split at hu
          · rw [Nat.add_comm]; exact hu
          · cases hu
        intro w5 H5
        change Hp _ _ _ [_, _, _, _] at H5
        rw [kc_partA hk6 (by omega) (by omega), hcpl] at H5
        refine ops_nil ?_
        refine ⟨fun hne => absurd rfl hne, ?_⟩
        refine nZ50 ?_
        refine mixz_nil ?_
        refine nR50 ?_
        refine run_nil (blk_normal ?_)
        refine run_region ?_
        refine ops_val (ex_add rfl rfl (IntWalk.i64_in _ (by omega))) ?_
        refine ops_val (ex_move rfl) ?_
        refine ops_nil ?_
        refine nR50 ?_
        refine run_nil (rnd_normal ?_)
        have hks2 : ks.set D.wait[q].1 (D.wait[q].2.take (clampK keep q) ++ (ks.getD D.wait[q].1 []).drop (clampK keep q)) = tears D.kept D.wait keep (q + 1) := by simp only [tears]; rw [List.getElem?_eq_getElem hql, hks]
        refine ⟨D.wait.length - (q + 1), by omega, q + 1, _, ks.set D.wait[q].1 (D.wait[q].2.take (clampK keep q) ++ (ks.getD D.wait[q].1 []).drop (clampK keep q)), rfl, (fs (fs (fn (fn (fn (fn (fn (fn (fn (fn (fn (fn (fn (fs (fs (fs (fn (fn (fn (fn (fn (fn (fn (fn (fn (fn (fn (fn (fn (fn (fn (fn (fn (fn (fn (fn (fn (fn (fn (fn (fn (fn (fn (fn (fn (fn (fn (fn (fn (fn f0)))))))))))))))))))))))))))))))))))))))))))))))))), rfl, by omega, hks2, ?_⟩
        have HF := H5.pick [0, 1, 2] (by decide)
        simp only [dRows, List.length_set]
        exact HF
    · have hqe : q = D.wait.length := by omega
      rw [hqe] at hks
      refine ops_nil ?_
      refine nR50 ?_
      refine run_seq ?_
      refine run_cond_false rfl ?_
      refine run_exit ?_
      refine rnd_exit ?_
      refine blk_exit ?_
      refine run_seq ?_
      refine run_region ?_
      refine ops_val (ex_move rfl) ?_
      refine ops_val (ex_nilCheck rfl) ?_
      refine ops_val (ex_fieldAddr fl89_1 rfl) ?_
      refine ops_store1 ty87 H1 0 rfl rfl rfl rfl (by first | decide | (simp; done) | simp [putAt]) rfl ?_
      intro w2 H2
      refine ops_nil ?_
      refine nR50 ?_
      refine run_seq ?_
      refine run_region ?_
      refine ops_val (ex_move rfl) ?_
      refine ops_val (ex_nilCheck rfl) ?_
      refine ops_val (ex_fieldAddr fl89_2 rfl) ?_
      refine ops_store1 ty4 H2 0 rfl rfl rfl rfl (by first | decide | (simp; done) | simp [putAt]) rfl ?_
      intro w3 H3
      refine ops_nil ?_
      refine nR50 ?_
      refine run_seq ?_
      refine run_region ?_
      refine ops_val (ex_assign rfl) ?_
      refine ops_nil ?_
      refine nR50 ?_
      refine run_ret ?_
      refine fin_ret1 rfl rfl ?_
      have hkl : ks.length = D.kept.length := by rw [hks, tears_length]
      have hk6 : ∀ b ∈ ks, b.length = 64 := by rw [hks]; exact tears_64 hk64 hw64 _
      subst hks
      exact ⟨rfl, none, 0, [], ⟨by show 0 < (tears _ _ _ _).length; omega, by show (tears _ _ _ _).length ≤ _; omega, hk6, fun p hp => (by cases hp), Nat.le_refl _, by simp, fun _ => rfl, harm⟩, (H3.pick [0, 1] (by decide)).nil 93⟩
end Go.Proofs.YtjoeklkmnfaabaaGreat
/-
  A log over a disk: what it is, how it lies in memory; what its operations do.
-/
namespace Go.Proofs.YtjoeklkmnfaabaaGreat
open Go Go.RowKit
/-! ### Panics in plain code -/
section plain
variable {P : Program} {ds : List Deferred} {Q : Post} {K : List Value → World → Prop} {all os : List Oper} {l : List Value} {w : World} {ty : TypeId} {pos : String} {af : Array Edge} {d : Tmp} {x y : Operand}
variable {fn : Func} {R : Value → World → Prop} {RP : Chain → World → Prop} {v1 v2 v3 : Value} {r1 r2 r3 : Tmp}
end plain
/-! ### Append to a slice that begins within its row -/
section app
variable {P : Program} {ds : List Deferred} {Q : Post} {K : List Value → World → Prop} {all os : List Oper} {l : List Value} {w0 w : World} {S : List Nat} {es : List Ent} {ty t : TypeId} {pos : String} {af : Array Edge} {d : Tmp} {x y : Operand} {zs : List Value} {agg : Bool}
end app
end Go.Proofs.YtjoeklkmnfaabaaGreat
/-
  A log over a disk: how it lies in memory.
-/
namespace Go.Proofs.YtjoeklkmnfaabaaGreat
open Go Go.RowKit
/-! ### Lists of bytes, empty ones too -/
def Lsw (w : World) (es : List Ent) (xs : List Value) (bs : List Blk) : Prop :=
  xs.length = bs.length ∧ ∀ i (h : i < bs.length), ∃ (B : Option Addr) (c : Nat), xs[i]? = some (.slice B bs[i].length c) ∧ Rd w B bs[i].length 1 (u8s bs[i]) ∧ (0 < bs[i].length → ∀ p, B = some p → p.block ∉ bl es)
theorem Rd.empty {w w' : World} {B : Option Addr} {n : Nat} {xs : List Value} (h : Rd w B n 1 xs) (h0 : n = 0) : Rd w' B n 1 xs := by
  subst h0
  have hx : xs = [] := List.eq_nil_of_length_eq_zero (by simpa using h.len)
  subst hx
  exact ⟨rfl, by simp, fun _ => rfl⟩
theorem Lsw.to {w w' : World} {es es' : List Ent} {xs : List Value} {bs : List Blk} (h : Lsw w es xs bs) (H : Hp w w' (bl es) es') : Lsw w' es' xs bs := by
  refine ⟨h.1, fun i hi => ?_⟩
  obtain ⟨B, c, h1, h2, h3⟩ := h.2 i hi
  by_cases h0 : bs[i].length = 0
  · exact ⟨B, c, h1, h2.empty h0, fun h => absurd h (by omega)⟩
  · exact ⟨B, c, h1, h2.to H (h3 (by omega)), fun hp => apt_to h2 (by omega) (h3 (by omega)) H⟩
/-- Through a call that may turn some blocks, none of them these. -/
theorem Lsw.keep {w w' : World} {S : List Nat} {es es' es2 : List Ent} {xs : List Value} {bs : List Blk} (h : Lsw w es xs bs) (H : Hp w w' S es2) (hS : ∀ b ∈ S, b ∈ bl es) (hn : ∀ b ∈ bl es', b ∈ bl es ∨ w.heap.size ≤ b) : Lsw w' es' xs bs := by
  refine ⟨h.1, fun i hi => ?_⟩
  obtain ⟨B, c, h1, h2, h3⟩ := h.2 i hi
  by_cases h0 : bs[i].length = 0
  · exact ⟨B, c, h1, h2.empty h0, fun h => absurd h (by omega)⟩
  · refine ⟨B, c, h1, h2.to H (fun p hp hb => h3 (by omega) p hp (hS _ hb)), fun _ p hp hb => ?_⟩
    rcases hn _ hb with h4 | h4
    · exact h3 (by omega) p hp h4
    · have h5 : 0 < (u8s bs[i]).length := by rw [u8s_length]; omega
      have h6 := World.block_lt_of_cell? w _ (h2.cells p hp 0 _ (List.getElem?_eq_getElem h5))
      rw [Addr.add_zero'] at h6
      omega
theorem Lsw.less {w : World} {es es' : List Ent} {xs : List Value} {bs : List Blk} (h : Lsw w es xs bs) (hs : ∀ b ∈ bl es', b ∈ bl es) : Lsw w es' xs bs := by
  refine ⟨h.1, fun i hi => ?_⟩
  obtain ⟨B, c, h1, h2, h3⟩ := h.2 i hi
  exact ⟨B, c, h1, h2, fun h0 p hp hb => h3 h0 p hp (hs _ hb)⟩
theorem Lsw.drop {w : World} {es : List Ent} {xs : List Value} {bs : List Blk} (h : Lsw w es xs bs) (n : Nat) : Lsw w es (xs.drop n) (bs.drop n) := by
  refine ⟨by simp [h.1], fun i hi => ?_⟩
  have hi' : n + i < bs.length := by simp at hi; omega
  obtain ⟨B, c, h1, h2, h3⟩ := h.2 (n + i) hi'
  rw [List.getElem_drop]
  exact ⟨B, c, by rw [List.getElem?_drop]; exact h1, h2, h3⟩
theorem Lsw.take {w : World} {es : List Ent} {xs : List Value} {bs : List Blk} (h : Lsw w es xs bs) (n : Nat) : Lsw w es (xs.take n) (bs.take n) := by
  refine ⟨by simp [h.1], fun i hi => ?_⟩
  have hi' : i < bs.length := by simp at hi; omega
  have hn : i < n := by simp at hi; omega
  obtain ⟨B, c, h1, h2, h3⟩ := h.2 i hi'
  rw [List.getElem_take]
  exact ⟨B, c, by rw [List.getElem?_take, if_pos hn]; exact h1, h2, h3⟩
theorem Lsw.nil (w : World) (es : List Ent) : Lsw w es [] [] := ⟨rfl, fun i hi => absurd hi (by simp)⟩
theorem Lsw.at {w : World} {es : List Ent} {xs : List Value} {bs : List Blk} (h : Lsw w es xs bs) {i : Nat} (hi : i < bs.length) : ∃ (B : Option Addr) (c : Nat), xs[i]? = some (.slice B bs[i].length c) ∧ Rd w B bs[i].length 1 (u8s bs[i]) ∧ (0 < bs[i].length → ∀ p, B = some p → p.block ∉ bl es) := h.2 i hi
theorem Lsw.ones {w : World} {es : List Ent} {xs : List Value} {bs : List Blk} (h : Lsw w es xs bs) : xs.all (·.oneCell') = true := by
  rw [List.all_eq_true]
  intro v hv
  obtain ⟨i, hi⟩ := List.getElem?_of_mem hv
  obtain ⟨B, c, h1, _⟩ := h.2 i (by rw [← h.1]; exact lt_of_get hi)
  have e : v = _ := (Option.some.inj (h1.symm.trans hi)).symm
  rw [e]; rfl
theorem Hp.two {w : World} {g1 g2 : Nat} {T1 T2 : TypeId} {c1 c2 : List Value} (h1 : w.heap[g1]? = some (.cells c1.toArray T1 (0, 0))) (h2 : w.heap[g2]? = some (.cells c2.toArray T2 (0, 0))) (hne : g1 ≠ g2) : Hp w w [g1, g2] [(some g1, T1, c1), (some g2, T2, c2)] := by
  refine ⟨rfl, rfl, rfl, Nat.le_refl _, fun _ _ _ => rfl, ?_, ?_⟩
  · intro i e he
    match i, he with
    | 0, he => simp at he; subst he; exact ⟨h1, .inl (by simp)⟩
    | 1, he => simp at he; subst he; exact ⟨h2, .inl (by simp)⟩
    | n + 2, he => simp at he
  · intro i j e f g hi hj hge hgf
    match i, j, hi, hj with
    | 0, 0, _, _ => rfl
    | 1, 1, _, _ => rfl
    | 0, 1, hi, hj => simp at hi hj; subst hi hj; simp at hge hgf; omega
    | 1, 0, hi, hj => simp at hi hj; subst hi hj; simp at hge hgf; omega
    | n + 2, _, hi, _ => simp at hi
    | 0, n + 2, _, hj => simp at hj
    | 1, n + 2, _, hj => simp at hj
theorem cell_cells {w : World} {a : Addr} {v : Value} (h : w.cell? a = some v) : ∃ arr T z, w.heap[a.block]? = some (.cells arr T z) := by
  unfold World.cell? at h
  cases ho : w.heap[a.block]? with
  | none => simp [ho] at h
  | some o => cases o <;> simp_all
theorem Lsw.loop {w w' : World} {es : List Ent} {L : Nat} {xs : List Value} {bs : List Blk} (h : Lsw w es xs bs) (H : Hp w w' [L] []) (hL : ∀ arr T z, w.heap[L]? ≠ some (.cells arr T z)) : Lsw w' es xs bs := by
  refine ⟨h.1, fun i hi => ?_⟩
  obtain ⟨B, c, h1, h2, h3⟩ := h.2 i hi
  by_cases h0 : bs[i].length = 0
  · exact ⟨B, c, h1, h2.empty h0, fun h => absurd h (by omega)⟩
  · refine ⟨B, c, h1, h2.to H (fun p hp hb => ?_), h3⟩
    have h5 : 0 < (u8s bs[i]).length := by rw [u8s_length]; omega
    have h6 := h2.cells p hp 0 _ (List.getElem?_eq_getElem h5)
    rw [Addr.add_zero'] at h6
    obtain ⟨arr, T, z, h7⟩ := cell_cells h6
    rw [List.mem_singleton.1 hb] at h7
    exact hL _ _ _ h7
theorem results_cell2 {P : Program} {fn : Func} {l : List Value} {w : World} {r r2 : Tmp} {ty ty2 : TypeId} {zs zs2 : List Value} {sz sz2 bytes bytes2 : Nat} {p p2 : Addr} {v v2 : Value} (hr : fn.results = #[.cell r ty, .cell r2 ty2]) (ht : TyOk P ty zs sz bytes false) (ht2 : TyOk P ty2 zs2 sz2 bytes2 false) (hn : nth l r = some (.pointer (some p))) (hn2 : nth l r2 = some (.pointer (some p2))) (hc : w.cell? p = some v) (hc2 : w.cell? p2 = some v2) : (results fn l.toArray).run P w = .ok (.tuple #[v, v2]) w := by
  have h1 := run_loadVar1 ht hc
  have h3 := run_loadVar1 ht2 hc2
  rw [nth_eq] at hn hn2
  simp [results, hr, hn, hn2, asAddr, h1, h3]
/-! ### What a log is -/
def wgt (n : Nat) : Nat := (n + 63) / 64 + 2
def nbk (n : Nat) : Nat := (n + 4 + 63) / 64
structure Wl where
  dead : Bool
  turn : Nat
  first : Nat
  recs : List Blk
  places : List Nat
  fin : Nat
  told : Nat
def used (rs : List Blk) : Nat := (rs.map fun r => wgt r.length).sum
def i64n (l : List Nat) : List Value := l.map fun (n : Nat) => .int .i64 (n : Int)
/-- Where it lies. -/
structure Mw where
  gd : Nat
  gk : Nat
  gw : Option Nat
  cw : Nat
  sp : List Value
  gv : Nat
  gr : Option Nat
  cr : Nat
  xs : List Value
  sr : List Value
  gp : Option Nat
  cp : Nat
  sq : List Value
@[reducible] def wcl (m : Mw) (W : Wl) : List Value := [.pointer (some ⟨m.gd, 0, none⟩), .bool W.dead, .int .u64 (W.turn : Int), .int .i64 (W.first : Int), .slice (hd m.gr) W.recs.length m.cr, .slice (hd m.gp) W.places.length m.cp, .int .i64 (W.fin : Int), .int .i64 (used W.recs : Int), .int .i64 (W.told : Int)]
@[reducible] def lRows (m : Mw) (W : Wl) : List Ent := [(some m.gv, 120, wcl m W), (m.gr, 73, m.xs ++ m.sr), (m.gp, 3, i64n W.places ++ m.sq)]
@[reducible] def wRows (m : Mw) (D : Dk) (W : Wl) : List Ent := dRows m.gd m.gk m.gw m.cw m.sp D ++ lRows m W
structure WOk (w : World) (m : Mw) (D : Dk) (W : Wl) : Prop where
  d : DOk D m.gw m.cw m.sp
  lst : Lsw w (wRows m D W) m.xs W.recs
  rc : W.recs.length ≤ m.cr
  rs : m.cr ≤ (m.xs ++ m.sr).length
  rn : m.gr = none → m.cr = 0
  pl : W.places.length = W.recs.length
  pc : W.places.length ≤ m.cp
  ps : m.cp ≤ (i64n W.places ++ m.sq).length
  pn : m.gp = none → m.cp = 0
  most : W.recs.length ≤ 16384
  long : ∀ r ∈ W.recs, r.length ≤ 16384
  size : 64 ≤ D.kept.length
  fin : W.fin < D.kept.length - 2
  plb : ∀ p ∈ W.places, p < 16384
  first : W.first ≤ 2 ^ 60
  turn : W.turn ≤ 2 ^ 60
  used : used W.recs ≤ 2 ^ 40
  told : W.told ≤ 16384
/-- These slices are of those, or lie in new memory. -/
def XsOk (w0 : World) (xs ys : List Value) : Prop := ∀ v ∈ ys, v ∈ xs ∨ ∀ p n c, v = .slice (some p) n c → w0.heap.size ≤ p.block
theorem XsOk.refl (w0 : World) (xs : List Value) : XsOk w0 xs xs := fun _ h => .inl h
theorem XsOk.trans {w0 w1 : World} {xs ys zs : List Value} (h : XsOk w0 xs ys) (h2 : XsOk w1 ys zs) (hs : w0.heap.size ≤ w1.heap.size) : XsOk w0 xs zs := by
  intro v hv
  rcases h2 v hv with h3 | h3
  · exact h v h3
  · exact .inr fun p n c he => Nat.le_trans hs (h3 p n c he)
theorem XsOk.drop (w0 : World) (xs : List Value) (n : Nat) : XsOk w0 xs (xs.drop n) := fun _ hv => .inl (List.mem_of_mem_drop hv)
/-- The log stands there. -/
def WPost (w0 w' : World) (S : List Nat) (m : Mw) (D : Dk) (W : Wl) : Prop := ∃ m' : Mw, m'.gd = m.gd ∧ m'.gk = m.gk ∧ m'.gv = m.gv ∧ XsOk w0 m.xs m'.xs ∧ WOk w' m' D W ∧ Hp w0 w' S (wRows m' D W)
/-- Records apart from the caller's own rows, behind a call. -/
theorem Lsw.frame {w1 w2 : World} {es1 es2 F : List Ent} {xs ys : List Value} {rs rs' : List Blk} (h1 : Lsw w1 es1 xs rs) (hx : XsOk w1 xs ys) (h2 : Lsw w2 es2 ys rs') (hF : ∀ b ∈ bl F, b ∈ bl es1 ∧ b < w1.heap.size) : Lsw w2 (es2 ++ F) ys rs' := by
  refine ⟨h2.1, fun i hi => ?_⟩
  obtain ⟨B, c, a1, a2, a3⟩ := h2.2 i hi
  refine ⟨B, c, a1, a2, fun h0 p hp hb => ?_⟩
  have hb' : p.block ∈ bl es2 ∨ p.block ∈ bl F := by
    unfold bl at hb ⊢
    rw [List.filterMap_append] at hb
    exact List.mem_append.1 hb
  rcases hb' with hb | hb
  · exact a3 h0 p hp hb
  · obtain ⟨hf1, hf2⟩ := hF _ hb
    rcases hx _ (List.mem_of_getElem? a1) with hv | hv
    · obtain ⟨j, hj⟩ := List.getElem?_of_mem hv
      obtain ⟨B', c', b1, b2, b3⟩ := h1.2 j (by rw [← h1.1]; exact lt_of_get hj)
      rw [hj] at b1
      simp only [Option.some.injEq, Value.slice.injEq] at b1
      exact b3 (by rw [← b1.2.1]; exact h0) p (by rw [← b1.1]; exact hp) hf1
    · have := hv p _ c (by rw [hp])
      omega
theorem WOk.move {w0 w : World} {m : Mw} {D : Dk} {W : Wl} {es : List Ent} (h : WOk w0 m D W) (H : Hp w0 w (bl (wRows m D W)) es) (is : List Nat) (e : wRows m D W = is.map fun i => es.getD i (none, 0, [])) : WOk w m D W :=
  { h with lst := (h.lst.to H).less (fun b hb => by rw [e] at hb; exact bl_pick H b hb) }
/-- A call's post, told from the beginning on. -/
theorem WPost.of {w0 w w' : World} {S : List Nat} {es : List Ent} {m : Mw} {D D' : Dk} {W W' : Wl} (H : Hp w0 w S es) (is : List Nat) (e : wRows m D W = is.map fun i => es.getD i (none, 0, [])) (h : WPost w w' (bl (wRows m D W)) m D' W') : WPost w0 w' S m D' W' := by
  obtain ⟨m', e1, e2, e3, e4, hok, H'⟩ := h
  exact ⟨m', e1, e2, e3, (XsOk.refl _ _).trans e4 H.size, hok, (H.callr is e H').right⟩
theorem WPost.here {w0 w : World} {S : List Nat} {es : List Ent} {m : Mw} {D : Dk} {W W' : Wl} (h : WOk w0 m D W) (H : Hp w0 w S es) (hS : S = bl (wRows m D W)) (is : List Nat) (hnd : is.Nodup) (e : wRows m D W' = is.map fun i => es.getD i (none, 0, [])) (hb : bl (wRows m D W') = bl (wRows m D W)) (h2 : WOk w0 m D W → WOk w0 m D W') : WPost w0 w S m D W' := by
  subst hS
  refine ⟨m, rfl, rfl, rfl, XsOk.refl _ _, ?_, by rw [e]; exact H.pick is hnd⟩
  have hk := h2 h
  have hl : Lsw w0 (wRows m D W) m.xs W'.recs := hk.lst.less (fun b hx => by rw [hb]; exact hx)
  exact { hk with lst := (hl.to H).less (fun b hx => by rw [e] at hx; exact bl_pick H b hx) }
/-- Of another world in which these rows stand, and nothing was turned but they. -/
theorem WOk.to {w w' : World} {m : Mw} {D : Dk} {W : Wl} (h : WOk w m D W) (H : Hp w w' (bl (wRows m D W)) (wRows m D W)) : WOk w' m D W :=
  { h with lst := h.lst.to H }
end Go.Proofs.YtjoeklkmnfaabaaGreat
/- Walks of layer 2, printed by wip/gen/codec.py. -/
namespace Go.Proofs.YtjoeklkmnfaabaaGreat
open Go Go.RowKit
set_option linter.unusedVariables false
attribute [local irreducible] Still Ops Does Cd
set_option maxRecDepth 100000 in
set_option maxHeartbeats 4000000 in
theorem down_p (gd : Nat) (x : Bool) (w0 : World) (hc : w0.cell? ⟨gd, 2, none⟩ = some (.bool x)) :
    Does Tryz.prog 52 #[.pointer (some ⟨gd, 0, none⟩)] w0 (fun r w' => r = .bool x ∧ w' = w0) := by
  refine does_of Tryz.func52 Tryz.ntmps52 rfl ?_
  change Run _ _ _ _ [.pointer (some ⟨gd, 0, none⟩), undef, undef, undef, undef, undef, undef, undef, undef, undef, undef] _
  have H := Hp.refl w0
  refine run_seq ?_
  refine run_region ?_
  refine ops_val (ex_assign rfl) ?_
  refine ops_nil ?_
  change Run _ _ _ _ [_, _, _, _, _, _, _, _, _, _, _] _
  refine run_seq ?_
  refine run_region ?_
  refine ops_val (ex_move rfl) ?_
  refine ops_true (ex_neq_nil_ptr Tryz.underlying27 rfl) (by simp) ?_
  refine ops_val (ex_move rfl) ?_
  change Ops _ _ _ _ _ _ [_, _, _, _, _, _, _, _, _, _, _] _
  refine ops_yes rfl ?_
  refine ops_val (ex_move rfl) ?_
  refine ops_yes rfl ?_
  refine ops_val (ex_nilCheck rfl) ?_
  change Ops _ _ _ _ _ _ [_, _, _, _, _, _, _, _, _, _, _] _
  refine ops_yes rfl ?_
  refine ops_val (ex_fieldAddr fl89_2 rfl) ?_
  refine ops_yes rfl ?_
  refine ops_val (ex_load ty4 rfl (hc)) ?_
  refine ops_val (ex_pick_t rfl rfl) ?_
  refine ops_val (ex_assign rfl) ?_
  refine ops_nil ?_
  change Run _ _ _ _ [_, _, _, _, _, _, _, _, _, _, _] _
  refine run_ret ?_
  refine fin_ret1 rfl rfl ?_
  exact ⟨rfl, rfl⟩
end Go.Proofs.YtjoeklkmnfaabaaGreat
/- Walks of layer 2, printed by wip/gen/codec.py. -/
namespace Go.Proofs.YtjoeklkmnfaabaaGreat
open Go Go.RowKit
set_option linter.unusedVariables false
attribute [local irreducible] Still Ops Does Cd
def Wl.took (W : Wl) (D : Dk) (b : Blk) : Wl := { W with recs := W.recs ++ [b], places := W.places ++ [W.fin], fin := (W.fin + nbk b.length) % (D.kept.length - 2) }
end Go.Proofs.YtjoeklkmnfaabaaGreat
/- Walks of layer 2, printed by wip/gen/codec.py. -/
namespace Go.Proofs.YtjoeklkmnfaabaaGreat
open Go Go.RowKit
set_option linter.unusedVariables false
attribute [local irreducible] Still Ops Does Cd
namespace Rn
attribute [local irreducible] Cd
end Rn
end Go.Proofs.YtjoeklkmnfaabaaGreat
/- Walks of layer 2, printed by wip/gen/codec.py. -/
namespace Go.Proofs.YtjoeklkmnfaabaaGreat
open Go Go.RowKit
set_option linter.unusedVariables false
attribute [local irreducible] Still Ops Does Cd
namespace Rn
attribute [local irreducible] Cd
end Rn
end Go.Proofs.YtjoeklkmnfaabaaGreat
/- Walks of layer 2, printed by wip/gen/codec.py. -/
namespace Go.Proofs.YtjoeklkmnfaabaaGreat
open Go Go.RowKit
set_option linter.unusedVariables false
attribute [local irreducible] Still Ops Does Cd
namespace Rn
attribute [local irreducible] Cd
end Rn
end Go.Proofs.YtjoeklkmnfaabaaGreat
/- Walks of layer 2, printed by wip/gen/codec.py. -/
namespace Go.Proofs.YtjoeklkmnfaabaaGreat
open Go Go.RowKit
set_option linter.unusedVariables false
attribute [local irreducible] Still Ops Does Cd
set_option maxRecDepth 100000 in
set_option maxHeartbeats 4000000 in
theorem append_nil (v : Value) (w0 : World) (hv : v.cells = [v].toArray) :
    Does Tryz.prog 35 #[.pointer none, v] w0 (fun r w' => r = .int .i64 2 ∧ Hp w0 w' [] []) := by
  refine does_of Tryz.func35 Tryz.ntmps35 rfl ?_
  refine nR31 ?_
  have H := Hp.refl w0
  refine run_seq ?_
  refine run_region ?_
  refine ops_box rfl rfl H ?_
  intro w1 g1 H1 hg1
  refine ops_box rfl hv H1 ?_
  intro w2 gq H2 hgq
  refine ops_val (ex_assign rfl) ?_
  refine ops_nil ?_
  refine nR31 ?_
  refine run_seq ?_
  refine run_seq ?_
  refine run_region ?_
  refine ops_val (ex_load ty65 rfl (H2.cell (i := 0) rfl rfl)) ?_
  refine ops_true (ex_eql_nil_ptr Tryz.underlying65 rfl) (rfl) ?_
  refine ops_nil ?_
  refine nR31 ?_
  refine run_cond_true rfl ?_
  refine run_seq ?_
  refine run_region ?_
  refine ops_val (ex_assign rfl) ?_
  refine ops_nil ?_
  refine nR31 ?_
  refine run_ret ?_
  refine fin_ret1 rfl rfl ?_
  exact ⟨rfl, H2.pick [] (by decide)⟩
end Go.Proofs.YtjoeklkmnfaabaaGreat
/- Walks of layer 2, printed by wip/gen/codec.py. -/
namespace Go.Proofs.YtjoeklkmnfaabaaGreat
open Go Go.RowKit
set_option linter.unusedVariables false
attribute [local irreducible] Still Ops Does Cd
def be8 (v : Nat) : Blk := (List.range 8).map fun i => UInt8.ofNat (v / 2 ^ (56 - 8 * i) % 256)
theorem results_cell_tmp {P : Program} {fn : Func} {l : List Value} {w : World} {r1 r2 : Tmp} {ty : TypeId} {zs : List Value} {sz bytes : Nat} {p : Addr} {v2 : Value} {cs : List Value} (hr : fn.results = #[.cell r1 ty, .tmp r2]) (ht : TyOk P ty zs sz bytes true) (h1 : nth l r1 = some (.pointer (some p))) (h2 : nth l r2 = some v2) (hl : cs.length = sz) (hc : ∀ j u, cs[j]? = some u → w.cell? (p.add j) = some u) : (results fn l.toArray).run P w = .ok (.tuple #[.agg cs.toArray, v2]) w := by
  have hl2 := run_loadVarN (P := P) (w := w) ht hl hc
  rw [nth_eq] at h1 h2
  simp [results, hr, h1, h2, asAddr, hl2]
end Go.Proofs.YtjoeklkmnfaabaaGreat
/- Walks of layer 2, printed by wip/gen/codec.py. -/
namespace Go.Proofs.YtjoeklkmnfaabaaGreat
open Go Go.RowKit
set_option linter.unusedVariables false
attribute [local irreducible] Still Ops Does Cd
def hdr (t f n s : Nat) : Blk := be8 t ++ be8 f ++ be8 n ++ be8 s ++ List.replicate 24 0 ++ be8 t
def Wl.start (W : Wl) (gone : Nat) : Nat := W.places.getD gone W.fin
def Wl.head (W : Wl) (gone : Nat) : Blk := hdr (W.turn + 1) (W.first + gone) (W.first + W.recs.length) (W.start gone)
def Wl.tell (W : Wl) (gone : Nat) : Wl := { W with turn := W.turn + 1, first := W.first + gone, recs := W.recs.drop gone, places := W.places.drop gone, told := (W.recs.drop gone).length }
end Go.Proofs.YtjoeklkmnfaabaaGreat
/- Walks of layer 2, printed by wip/gen/codec.py. -/
namespace Go.Proofs.YtjoeklkmnfaabaaGreat
open Go Go.RowKit
set_option linter.unusedVariables false
attribute [local irreducible] Still Ops Does Cd
end Go.Proofs.YtjoeklkmnfaabaaGreat
/- Walks of layer 2, printed by wip/gen/codec.py. -/
namespace Go.Proofs.YtjoeklkmnfaabaaGreat
open Go Go.RowKit
set_option linter.unusedVariables false
attribute [local irreducible] Still Ops Does Cd
def Wl.tookN (W : Wl) (D : Dk) (rs : List Blk) : Nat → Wl
  | 0 => W
  | k + 1 => (W.tookN D rs k).took D (rs.getD k [])
def Wl.found (W : Wl) (D : Dk) (rs : List Blk) : Wl := { W.tookN D rs rs.length with told := (W.tookN D rs rs.length).recs.length }
end Go.Proofs.YtjoeklkmnfaabaaGreat
/- Walks of layer 2, printed by wip/gen/codec.py. -/
namespace Go.Proofs.YtjoeklkmnfaabaaGreat
open Go Go.RowKit
set_option linter.unusedVariables false
attribute [local irreducible] Still Ops Does Cd
end Go.Proofs.YtjoeklkmnfaabaaGreat
/- Walks of layer 2, printed by wip/gen/codec.py. -/
namespace Go.Proofs.YtjoeklkmnfaabaaGreat
open Go Go.RowKit
set_option linter.unusedVariables false
attribute [local irreducible] Still Ops Does Cd
/-! ### Which heading holds -/
/-- A log that was just opened: nothing is read yet. -/
@[reducible] def Wl.anew (t f s : Nat) : Wl := ⟨false, t, f, [], [], s, 0⟩
namespace Rn
attribute [local irreducible] Cd
set_option maxRecDepth 100000 in
set_option maxHeartbeats 4000000 in
theorem open_nil (w0 : World) :
    DoesP Tryz.prog 28 #[.pointer none] w0 (fun r w' => r = .tuple #[.pointer none, .int .i64 2] ∧ Hp w0 w' [] []) (fun _ _ => False) := by
  refine does_ofD Tryz.func28 Tryz.ntmps28 rfl ?_
  change Run _ _ _ _ [.pointer none, undef, undef, undef, undef, undef, undef, undef, undef, undef, undef, undef, undef, undef, undef, undef, undef, undef, undef, undef, undef, undef, undef, undef, undef, undef, undef, undef, undef, undef, undef, undef, undef, undef, undef, undef, undef, undef, undef, undef, undef, undef, undef, undef, undef, undef, undef, undef, undef, undef, undef, undef, undef, undef, undef, undef, undef, undef, undef, undef, undef, undef, undef, undef, undef, undef, undef, undef, undef] _
  have H := Hp.refl w0
  refine run_seq ?_
  refine run_region rfl (fun _ _ h => h) ?_
  refine ops_alloc ty65 H ?_
  intro w1 g2 H1 hg2
  refine ops_alloc ty24 H1 ?_
  intro w2 g3 H2 hg3
  refine ops_nil ?_
  change Run _ _ _ _ [_, _, _, _, _, _, _, _, _, _, _, _, _, _, _, _, _, _, _, _, _, _, _, _, _, _, _, _, _, _, _, _, _, _, _, _, _, _, _, _, _, _, _, _, _, _, _, _, _, _, _, _, _, _, _, _, _, _, _, _, _, _, _, _, _, _, _, _, _] _
  refine run_seq ?_
  refine run_seq ?_
  refine run_region rfl (fun _ _ h => h) ?_
  refine ops_val (ex_move rfl) ?_
  refine ops_true (ex_eql_nil_ptr Tryz.underlying27 rfl) (rfl) ?_
  refine ops_nil ?_
  change Run _ _ _ _ [_, _, _, _, _, _, _, _, _, _, _, _, _, _, _, _, _, _, _, _, _, _, _, _, _, _, _, _, _, _, _, _, _, _, _, _, _, _, _, _, _, _, _, _, _, _, _, _, _, _, _, _, _, _, _, _, _, _, _, _, _, _, _, _, _, _, _, _, _] _
  refine run_cond_true rfl ?_
  refine run_seq ?_
  refine run_region rfl (fun _ _ h => h) ?_
  refine ops_store1 ty65 H2 0 rfl rfl rfl rfl (by first | decide | (simp; done) | simp [putAt]) rfl ?_
  intro w3 H3
  refine ops_store1 ty24 H3 1 rfl rfl rfl rfl (by first | decide | (simp; done) | simp [putAt]) rfl ?_
  intro w4 H4
  refine ops_nil ?_
  change Run _ _ _ _ [_, _, _, _, _, _, _, _, _, _, _, _, _, _, _, _, _, _, _, _, _, _, _, _, _, _, _, _, _, _, _, _, _, _, _, _, _, _, _, _, _, _, _, _, _, _, _, _, _, _, _, _, _, _, _, _, _, _, _, _, _, _, _, _, _, _, _, _, _] _
  refine run_ret ?_
  refine finD_ret (results_cell2 rfl ty65 ty24 rfl rfl (H4.cell (i := 0) rfl rfl) (H4.cell (i := 1) rfl rfl)) ⟨rfl, H4.pick [] (by decide)⟩
set_option maxRecDepth 100000 in
set_option maxHeartbeats 4000000 in
theorem open_down (gd gk : Nat) (gw : Option Nat) (cw : Nat) (sp : List Value) (D : Dk) (w0 : World) (H0 : Hp w0 w0 (bl (dRows gd gk gw cw sp D)) (dRows gd gk gw cw sp D)) (hdn : D.down = true) :
    DoesP Tryz.prog 28 #[.pointer (some ⟨gd, 0, none⟩)] w0 (fun r w' => r = .tuple #[.pointer none, .int .i64 40] ∧ Hp w0 w' (bl (dRows gd gk gw cw sp D)) (dRows gd gk gw cw sp D)) (fun _ _ => False) := by
  refine does_ofD Tryz.func28 Tryz.ntmps28 rfl ?_
  change Run _ _ _ _ [.pointer (some ⟨gd, 0, none⟩), undef, undef, undef, undef, undef, undef, undef, undef, undef, undef, undef, undef, undef, undef, undef, undef, undef, undef, undef, undef, undef, undef, undef, undef, undef, undef, undef, undef, undef, undef, undef, undef, undef, undef, undef, undef, undef, undef, undef, undef, undef, undef, undef, undef, undef, undef, undef, undef, undef, undef, undef, undef, undef, undef, undef, undef, undef, undef, undef, undef, undef, undef, undef, undef, undef, undef, undef, undef] _
  have H := H0
  refine run_seq ?_
  refine run_region rfl (fun _ _ h => h) ?_
  refine ops_alloc ty65 H ?_
  intro w1 g2 H1 hg2
  refine ops_alloc ty24 H1 ?_
  intro w2 g3 H2 hg3
  refine ops_nil ?_
  change Run _ _ _ _ [_, _, _, _, _, _, _, _, _, _, _, _, _, _, _, _, _, _, _, _, _, _, _, _, _, _, _, _, _, _, _, _, _, _, _, _, _, _, _, _, _, _, _, _, _, _, _, _, _, _, _, _, _, _, _, _, _, _, _, _, _, _, _, _, _, _, _, _, _] _
  refine run_seq ?_
  refine run_seq ?_
  refine run_region rfl (fun _ _ h => h) ?_
  refine ops_val (ex_move rfl) ?_
  refine ops_false (ex_eql_nil_ptr Tryz.underlying27 rfl) (by simp) ?_
  refine ops_nil ?_
  change Run _ _ _ _ [_, _, _, _, _, _, _, _, _, _, _, _, _, _, _, _, _, _, _, _, _, _, _, _, _, _, _, _, _, _, _, _, _, _, _, _, _, _, _, _, _, _, _, _, _, _, _, _, _, _, _, _, _, _, _, _, _, _, _, _, _, _, _, _, _, _, _, _, _] _
  refine run_cond_false rfl ?_
  refine run_skip ?_
  refine run_seq ?_
  refine run_seq ?_
  refine run_region rfl (fun _ _ h => h) ?_
  refine ops_val (ex_move rfl) ?_
  refine ops_call_eq (ex_call gf52 rfl) (down_p gd true _ (by have hz := H2.cell (i := 0) (o := 2) (v := .bool D.down) rfl rfl; rw [hdn] at hz; exact hz)) ?_
  refine ops_nil ?_
  change Run _ _ _ _ [_, _, _, _, _, _, _, _, _, _, _, _, _, _, _, _, _, _, _, _, _, _, _, _, _, _, _, _, _, _, _, _, _, _, _, _, _, _, _, _, _, _, _, _, _, _, _, _, _, _, _, _, _, _, _, _, _, _, _, _, _, _, _, _, _, _, _, _, _] _
  refine run_cond_true rfl ?_
  refine run_seq ?_
  refine run_region rfl (fun _ _ h => h) ?_
  refine ops_store1 ty65 H2 3 rfl rfl rfl rfl (by first | decide | (simp; done) | simp [putAt]) rfl ?_
  intro w3 H3
  refine ops_store1 ty24 H3 4 rfl rfl rfl rfl (by first | decide | (simp; done) | simp [putAt]) rfl ?_
  intro w4 H4
  refine ops_nil ?_
  change Run _ _ _ _ [_, _, _, _, _, _, _, _, _, _, _, _, _, _, _, _, _, _, _, _, _, _, _, _, _, _, _, _, _, _, _, _, _, _, _, _, _, _, _, _, _, _, _, _, _, _, _, _, _, _, _, _, _, _, _, _, _, _, _, _, _, _, _, _, _, _, _, _, _] _
  refine run_ret ?_
  refine finD_ret (results_cell2 rfl ty65 ty24 rfl rfl (H4.cell (i := 3) rfl rfl) (H4.cell (i := 4) rfl rfl)) ⟨rfl, H4.pick [0, 1, 2] (by decide)⟩
end Rn
end Go.Proofs.YtjoeklkmnfaabaaGreat
/-
  What a vault has: ballots, votes, entries, rights, marks, books, notes; how they lie in memory; what a note does to a book.
-/
namespace Go.Proofs.YtjoeklkmnfaabaaGreat
open Go Go.RowKit

structure Bal where
  r : Int
  n : Int
structure Vt where
  slot : Int
  b : Bal
  val : Blk
structure En where
  slot : Int
  val : Blk
structure Rt where
  g : Int
  key : Blk
  lease : Int
  net : Int
structure Mk where
  client : Int
  seq : Int
structure Sv where
  p : Bal
  votes : List Vt
  index : Int
  image : Blk
  entries : List En
structure Bo where
  groups : List Sv
  rights : List Rt
  last : List Mk
structure Nt where
  kind : Int
  group : Int
  b : Bal
  vote : Vt
  entry : En
  right : Rt
  client : Int
  seq : Int

/-! ### How they lie -/
def strV (s : Blk) : Value := .string ⟨s.toArray⟩
def Bs (w : World) (ok : Nat → Prop) (A : Option Addr) (b : Blk) : Prop := Rd w A b.length 1 (u8s b) ∧ (0 < b.length → ∀ p, A = some p → ok p.block) ∧ b.length ≤ 140737488351232
def Sl {X : Type} (R : List Value → X → Prop) (sz : Nat) (w : World) (ok : Nat → Prop) (A : Option Addr) (xs : List X) : Prop :=
  ∃ ps, Pl sz ps ∧ Rd w A xs.length sz ps.flatten ∧ (0 < xs.length → ∀ p, A = some p → ok p.block) ∧ All2 R ps xs
def VtR (w : World) (ok : Nat → Prop) (p : List Value) (x : Vt) : Prop := ∃ A k, p = [.int .i64 x.slot, .int .i64 x.b.r, .int .i64 x.b.n, .slice A x.val.length k] ∧ Bs w ok A x.val
def EnR (w : World) (ok : Nat → Prop) (p : List Value) (x : En) : Prop := ∃ A k, p = [.int .i64 x.slot, .slice A x.val.length k] ∧ Bs w ok A x.val
@[reducible] def rtC (x : Rt) : List Value := [.int .i64 x.g, strV x.key, .int .i64 x.lease, .int .i64 x.net]
@[reducible] def mkC (x : Mk) : List Value := [.int .i64 x.client, .int .i64 x.seq, .bool false, .int .i64 0, .int .i64 0, .int .i64 0, .int .i64 0]
def RtR (p : List Value) (x : Rt) : Prop := p = rtC x
def MkR (p : List Value) (x : Mk) : Prop := p = mkC x
def SvR (w : World) (ok : Nat → Prop) (p : List Value) (s : Sv) : Prop :=
  ∃ A1 k1 A2 k2 A3 k3, p = [.int .i64 s.p.r, .int .i64 s.p.n, .slice A1 s.votes.length k1, .int .i64 s.index, .slice A2 s.image.length k2, .slice A3 s.entries.length k3] ∧
    Sl (VtR w ok) 4 w ok A1 s.votes ∧ Bs w ok A2 s.image ∧ Sl (EnR w ok) 2 w ok A3 s.entries
def BoR (w : World) (ok : Nat → Prop) (p : List Value) (b : Bo) : Prop :=
  ∃ A1 k1 A2 k2 A3 k3, p = [.slice A1 b.groups.length k1, .slice A2 b.rights.length k2, .slice A3 b.last.length k3] ∧
    Sl (SvR w ok) 6 w ok A1 b.groups ∧ Sl RtR 4 w ok A2 b.rights ∧ Sl MkR 7 w ok A3 b.last
@[reducible] def ntC (n : Nt) (A1 : Option Addr) (k1 : Nat) (A2 : Option Addr) (k2 : Nat) : List Value :=
  [.int .i64 n.kind, .int .i64 n.group, .int .i64 n.b.r, .int .i64 n.b.n, .int .i64 n.vote.slot, .int .i64 n.vote.b.r, .int .i64 n.vote.b.n, .slice A1 n.vote.val.length k1, .int .i64 n.entry.slot, .slice A2 n.entry.val.length k2,
    .int .i64 n.right.g, strV n.right.key, .int .i64 n.right.lease, .int .i64 n.right.net, .int .i64 n.client, .int .i64 n.seq]
def NtR (w : World) (ok : Nat → Prop) (p : List Value) (n : Nt) : Prop :=
  ∃ A1 k1 A2 k2, p = ntC n A1 k1 A2 k2 ∧ Bs w ok A1 n.vote.val ∧ Bs w ok A2 n.entry.val
section
variable {w w' : World} {ok ok' : Nat → Prop} {S : List Nat} {es : List Ent} {A : Option Addr} {p : List Value}
theorem Rd.zero {n sz : Nat} {xs : List Value} (h : Rd w A n sz xs) (h0 : n = 0) : Rd w' A n sz xs := by
  have hx : xs = [] := List.eq_nil_of_length_eq_zero (by rw [h.len, h0, Nat.zero_mul])
  subst hx
  exact ⟨h.len, fun _ _ j u hu => by simp at hu, h.nil⟩
theorem Rd.blk {n sz : Nat} {xs : List Value} (h : Rd w A n sz xs) (hn : 0 < n) (hz : 0 < sz) : ∀ a, A = some a → a.block < w.heap.size := by
  intro a ha
  have hl : 0 < xs.length := by rw [h.len]; exact Nat.mul_pos hn hz
  have h1 := World.block_lt_of_cell? w _ (h.cells a ha 0 _ (List.getElem?_eq_getElem hl))
  rwa [Addr.add_zero'] at h1
theorem Rd.move {n sz : Nat} {xs : List Value} (h : Rd w A n sz xs) (hz : 0 < sz) (ha : 0 < n → ∀ p, A = some p → ok p.block) (H : Hp w w' S es) (hk : ∀ x, ok x → x < w.heap.size → x ∉ S ∧ ok' x) : Rd w' A n sz xs ∧ (0 < n → ∀ p, A = some p → ok' p.block) := by
  rcases Nat.eq_zero_or_pos n with h0 | h0
  · exact ⟨h.zero h0, fun h1 => by omega⟩
  · exact ⟨h.to H fun a e => (hk _ (ha h0 a e) (h.blk h0 hz a e)).1, fun _ a e => (hk _ (ha h0 a e) (h.blk h0 hz a e)).2⟩
theorem Bs.to {b : Blk} (h : Bs w ok A b) (H : Hp w w' S es) (hk : ∀ x, ok x → x < w.heap.size → x ∉ S ∧ ok' x) : Bs w' ok' A b := by
  obtain ⟨h1, h2⟩ := h.1.move (by decide) h.2.1 H hk
  exact ⟨h1, h2, h.2.2⟩
theorem Sl.to {X : Type} {R R' : List Value → X → Prop} {sz : Nat} {xs : List X} (h : Sl R sz w ok A xs) (hz : 0 < sz) (H : Hp w w' S es) (hk : ∀ x, ok x → x < w.heap.size → x ∉ S ∧ ok' x) (hR : ∀ p x, R p x → R' p x) : Sl R' sz w' ok' A xs := by
  obtain ⟨ps, hp, hr, ha, h2⟩ := h
  obtain ⟨h3, h4⟩ := hr.move hz ha H hk
  exact ⟨ps, hp, h3, h4, h2.imp hR⟩
theorem VtR.to {x : Vt} (h : VtR w ok p x) (H : Hp w w' S es) (hk : ∀ x, ok x → x < w.heap.size → x ∉ S ∧ ok' x) : VtR w' ok' p x := by
  obtain ⟨A, k, rfl, h⟩ := h
  exact ⟨A, k, rfl, h.to H hk⟩
theorem EnR.to {x : En} (h : EnR w ok p x) (H : Hp w w' S es) (hk : ∀ x, ok x → x < w.heap.size → x ∉ S ∧ ok' x) : EnR w' ok' p x := by
  obtain ⟨A, k, rfl, h⟩ := h
  exact ⟨A, k, rfl, h.to H hk⟩
theorem Sl.toV {xs : List Vt} (h : Sl (VtR w ok) 4 w ok A xs) (H : Hp w w' S es) (hk : ∀ x, ok x → x < w.heap.size → x ∉ S ∧ ok' x) : Sl (VtR w' ok') 4 w' ok' A xs := h.to (by decide) H hk fun _ _ h => h.to H hk
theorem Sl.toE {xs : List En} (h : Sl (EnR w ok) 2 w ok A xs) (H : Hp w w' S es) (hk : ∀ x, ok x → x < w.heap.size → x ∉ S ∧ ok' x) : Sl (EnR w' ok') 2 w' ok' A xs := h.to (by decide) H hk fun _ _ h => h.to H hk
theorem SvR.to {x : Sv} (h : SvR w ok p x) (H : Hp w w' S es) (hk : ∀ x, ok x → x < w.heap.size → x ∉ S ∧ ok' x) : SvR w' ok' p x := by
  obtain ⟨A1, k1, A2, k2, A3, k3, rfl, h1, h2, h3⟩ := h
  exact ⟨A1, k1, A2, k2, A3, k3, rfl, h1.toV H hk, h2.to H hk, h3.toE H hk⟩
theorem Sl.toS {xs : List Sv} (h : Sl (SvR w ok) 6 w ok A xs) (H : Hp w w' S es) (hk : ∀ x, ok x → x < w.heap.size → x ∉ S ∧ ok' x) : Sl (SvR w' ok') 6 w' ok' A xs := h.to (by decide) H hk fun _ _ h => h.to H hk
theorem Sl.toR {xs : List Rt} (h : Sl RtR 4 w ok A xs) (H : Hp w w' S es) (hk : ∀ x, ok x → x < w.heap.size → x ∉ S ∧ ok' x) : Sl RtR 4 w' ok' A xs := h.to (by decide) H hk fun _ _ h => h
theorem Sl.toM {xs : List Mk} (h : Sl MkR 7 w ok A xs) (H : Hp w w' S es) (hk : ∀ x, ok x → x < w.heap.size → x ∉ S ∧ ok' x) : Sl MkR 7 w' ok' A xs := h.to (by decide) H hk fun _ _ h => h
theorem BoR.to {x : Bo} (h : BoR w ok p x) (H : Hp w w' S es) (hk : ∀ x, ok x → x < w.heap.size → x ∉ S ∧ ok' x) : BoR w' ok' p x := by
  obtain ⟨A1, k1, A2, k2, A3, k3, rfl, h1, h2, h3⟩ := h
  exact ⟨A1, k1, A2, k2, A3, k3, rfl, h1.toS H hk, h2.toR H hk, h3.toM H hk⟩
theorem NtR.to {x : Nt} (h : NtR w ok p x) (H : Hp w w' S es) (hk : ∀ x, ok x → x < w.heap.size → x ∉ S ∧ ok' x) : NtR w' ok' p x := by
  obtain ⟨A1, k1, A2, k2, rfl, h1, h2⟩ := h
  exact ⟨A1, k1, A2, k2, rfl, h1.to H hk, h2.to H hk⟩
theorem k0 : ∀ x, ok x → x < w.heap.size → x ∉ ([] : List Nat) ∧ ok x := fun _ h _ => ⟨by simp, h⟩
theorem VtR.len {x : Vt} (h : VtR w ok p x) : p.length = 4 := by obtain ⟨_, _, rfl, _⟩ := h; rfl
theorem EnR.len {x : En} (h : EnR w ok p x) : p.length = 2 := by obtain ⟨_, _, rfl, _⟩ := h; rfl
theorem SvR.len {x : Sv} (h : SvR w ok p x) : p.length = 6 := by obtain ⟨_, _, _, _, _, _, rfl, _⟩ := h; rfl
theorem NtR.len {x : Nt} (h : NtR w ok p x) : p.length = 16 := by obtain ⟨_, _, _, _, rfl, _⟩ := h; rfl
theorem VtR.ones {x : Vt} (h : VtR w ok p x) : p.all (·.oneCell') = true := by obtain ⟨_, _, rfl, _⟩ := h; rfl
theorem EnR.ones {x : En} (h : EnR w ok p x) : p.all (·.oneCell') = true := by obtain ⟨_, _, rfl, _⟩ := h; rfl
theorem RtR.ones {x : Rt} (h : RtR p x) : p.all (·.oneCell') = true := by rw [h]; rfl
theorem MkR.ones {x : Mk} (h : MkR p x) : p.all (·.oneCell') = true := by rw [h]; rfl
theorem SvR.ones {x : Sv} (h : SvR w ok p x) : p.all (·.oneCell') = true := by obtain ⟨_, _, _, _, _, _, rfl, _⟩ := h; rfl
theorem NtR.ones {x : Nt} (h : NtR w ok p x) : p.all (·.oneCell') = true := by obtain ⟨_, _, _, _, rfl, _⟩ := h; rfl
theorem All2.ones {X : Type} {R : List Value → X → Prop} (hR : ∀ p x, R p x → p.all (·.oneCell') = true) : ∀ {ps : List (List Value)} {xs : List X}, All2 R ps xs → ∀ p ∈ ps, p.all (·.oneCell') = true
  | [], [], _, p, hp => by cases hp
  | q :: ps, x :: xs, h, p, hp => by
    rcases List.mem_cons.1 hp with rfl | hp
    · exact hR _ _ h.1
    · exact All2.ones hR h.2 p hp
theorem Bs.none (w : World) (ok : Nat → Prop) : Bs w ok none [] := ⟨Rd.none_ w 1, (fun h => by cases h), by decide⟩
theorem Sl.none {X : Type} (R : List Value → X → Prop) (sz : Nat) (w : World) (ok : Nat → Prop) : Sl R sz w ok Option.none [] := ⟨[], Pl.nil _, Rd.none_ w sz, (fun h => by cases h), trivial⟩
end

/-! ### What a note does -/
@[reducible] def Bal.lt (a b : Bal) : Prop := a.r < b.r ∨ (a.r = b.r ∧ a.n < b.n)
def Sv.last (s : Sv) : Int := s.index + s.entries.length
def Sv.raise (s : Sv) (b : Bal) : Sv := if s.p.lt b then { s with p := b } else s
def putVt (l : List Vt) (v : Vt) : List Vt := l.filter (fun x => decide (x.slot < v.slot)) ++ v :: l.filter (fun x => decide (v.slot < x.slot))
def behind (l : List Vt) (n : Int) : List Vt := l.filter fun x => decide (n < x.slot)
def imgEn (l : List En) (n : Int) : List En := match l.filter fun x => decide (n < x.slot) with
  | [] => []
  | e :: r => if e.slot = n + 1 then e :: r else []
def Sv.goes (s : Sv) (n : Nt) : Sv :=
  if n.kind = 1 then s.raise n.b
  else if n.kind = 2 then (if n.vote.slot ≤ s.last then s else ({ s with votes := putVt s.votes n.vote } : Sv).raise n.vote.b)
  else if n.kind = 3 then (if n.entry.slot = s.last + 1 then { s with entries := s.entries ++ [n.entry], votes := behind s.votes n.entry.slot } else s)
  else if n.entry.slot ≤ s.index then s else { s with index := n.entry.slot, image := n.entry.val, entries := imgEn s.entries n.entry.slot, votes := behind s.votes n.entry.slot }
def entOk : Int → List En → Bool
  | _, [] => true
  | n, e :: l => decide (e.slot = n + 1 ∧ e.slot ≤ 1099511627776 ∧ e.val.length ≤ 2048) && entOk (n + 1) l
def vtsOk (p : Bal) (first : Int) : Int → List Vt → Bool
  | _, [] => true
  | n, v :: l => decide (n ≤ v.slot ∧ v.slot < first + 16 ∧ 1 ≤ v.b.r ∧ 1 ≤ v.b.n ∧ ¬ p.lt v.b ∧ v.val.length ≤ 2048) && vtsOk p first (v.slot + 1) l
/-- May a member have saved that? -/
def chk (s : Sv) : Bool :=
  decide ((s.p.r = 0 ∧ s.p.n = 0) ∨ (1 ≤ s.p.r ∧ 1 ≤ s.p.n ∧ s.p.n ≤ 5)) && decide (0 ≤ s.index ∧ s.index ≤ 1099511627776 ∧ (s.index = 0 → s.image.length = 0) ∧ s.image.length ≤ 8192) && entOk s.index s.entries &&
    decide (s.index + s.entries.length + 1 ≤ 1099511627776) && vtsOk s.p (s.index + s.entries.length + 1) (s.index + s.entries.length + 1) s.votes
@[reducible] def mayR (r : Rt) : Prop := 1 ≤ r.g ∧ r.g < 8 ∧ 1 ≤ r.key.length ∧ r.key.length ≤ 16 ∧ 1 ≤ r.lease
def ltR (a b : Rt) : Bool := decide (a.g < b.g) || (decide (a.g = b.g) && Op.bytesLess a.key b.key)
def putRt (l : List Rt) (r : Rt) : List Rt := l.filter (fun x => ltR x r) ++ r :: l.filter (fun x => ltR r x)
def putMk (l : List Mk) (m : Mk) : List Mk := l.filter (fun x => decide (x.client < m.client)) ++ m :: l.filter (fun x => decide (m.client < x.client))
def findMk (l : List Mk) (c : Int) : Option Mk := l.find? fun x => decide (x.client = c)
def spend (l : List Mk) (c q : Int) : List Mk :=
  if c < 1 ∨ 8 < c ∨ q < 1 ∨ 4611686018427387904 < q then l
  else match findMk l c with
    | some m => if q ≤ m.seq then l else putMk l ⟨c, q⟩
    | none => putMk l ⟨c, q⟩
def Bo.into (b : Bo) (n : Nt) : Option Bo :=
  if n.kind = 5 then (if mayR n.right then some { b with rights := putRt b.rights n.right, last := spend b.last n.client n.seq } else none)
  else if n.kind < 1 ∨ 4 < n.kind ∨ n.group < 0 ∨ 8 ≤ n.group then none
  else match b.groups[n.group.toNat]? with
    | some s => if chk (s.goes n) then some { b with groups := b.groups.set n.group.toNat (s.goes n) } else none
    | none => none
def Sv.none : Sv := ⟨⟨0, 0⟩, [], 0, [], []⟩
def Bo.empty : Bo := ⟨List.replicate 8 Sv.none, [], []⟩
def repl : Bo → List Nt → Option Bo
  | b, [] => some b
  | b, n :: l => match b.into n with
    | some b' => repl b' l
    | none => none
/-- Rights by rising groups and keys; marks by rising clients. -/
def rtsOk : List Rt → Prop
  | [] => True
  | r :: l => mayR r ∧ (∀ x ∈ l, ltR r x = true) ∧ rtsOk l
def mksOk : Int → List Mk → Prop
  | _, [] => True
  | c, m :: l => c < m.client ∧ m.client ≤ 8 ∧ 1 ≤ m.seq ∧ m.seq ≤ 4611686018427387904 ∧ mksOk m.client l
/-- A book that notes have made, so many at most. -/
structure Good (b : Bo) (N : Nat) : Prop where
  eight : b.groups.length = 8
  chk : ∀ s ∈ b.groups, chk s = true
  rts : rtsOk b.rights
  mks : mksOk 0 b.last
  few : b.rights.length ≤ N
end Go.Proofs.YtjoeklkmnfaabaaGreat
/-
  Equality of ballots, answers, rights, marks, as the machine tells it; strings, compared.
-/
namespace Go.Proofs.YtjoeklkmnfaabaaGreat
open Go Go.RowKit

section
variable {P : Program} {l : List Value} {w : World} {ty t t' : TypeId} {x y : Operand}
theorem strV_size (s : Blk) : (⟨s.toArray⟩ : ByteArray).size = s.length := by show s.toArray.size = _; simp
theorem ex_len_strV {s : Blk} {ats : Array TypeId} (ht : (ats[0]?).bind P.underlying = some .string) (hx : ev l x = some (strV s)) :
    Ex P l (.call { callee := .builtin .len, args := #[x], argTypes := ats }) ty w (.value (.int .i64 (s.length : Int))) w := by
  have h := ex_len_string (P := P) (l := l) (w := w) (ty := ty) (x := x) (s := ⟨s.toArray⟩) ht hx
  rwa [strV_size] at h
/-- Two aggregates of one type, by how their parts compare. -/
theorem ex_agg {op : BinOp} {xs ys : List Value} {b : Bool} (hm : P.eqGuardType P.depth t = false) (he : ∀ w, (Op.equalIn 10000 t (.agg xs.toArray) (.agg ys.toArray)).run P w = .ok b w) (hx : ev l x = some (.agg xs.toArray)) (hy : ev l y = some (.agg ys.toArray)) (ho : op = .eql ∨ op = .neq) :
    Ex P l (.binOp op t x y t') ty w (.value (.bool (if op = .eql then b else !b))) w := fun _ _ _ _ => by
  have hg := run_eqGuard_agg (P := P) w op t x y xs.toArray ys.toArray hm
  rcases ho with rfl | rfl
  · simp [execOp, rho_of hx, rho_of hy, hg, run_eql_struct, he]
  · simp [execOp, rho_of hx, rho_of hy, hg, run_neq_struct, he]
end
section
variable {l : List Value} {w : World} {ty t t' : TypeId} {x y : Operand}
theorem eq_bal (a b c d : Int) (w : World) (n : Nat) : (Op.equalIn (n + 2) 75 (.agg [.int .i64 a, .int .i64 b].toArray) (.agg [.int .i64 c, .int .i64 d].toArray)).run Tryz.prog w = .ok (decide (a = c ∧ b = d)) w := by
  have u3 := Tryz.underlying3
  have a3 := Tryz.isAgg3
  have z3 := Tryz.sizeOf3
  have hS : Tryz.prog.underlying 75 = some (.struct (Tryz.prog.fieldsOf 75)) := by kernel_rfl
  have hp : Tryz.prog.stoodInHeld 75 = false := by kernel_rfl
  rw [show (n + 2 : Nat) = (n + 1) + 1 from rfl, run_equalIn_agg w (n + 1) 75 _ _ hS hp]
  simp only [Program.fieldsOf, Tryz.underlying75]
  go_simp
  by_cases h1 : a = c <;> by_cases h2 : b = d <;> simp [h1, h2]
theorem ex_neq_bal {a b c d : Int} (hx : ev l x = some (.agg [.int .i64 a, .int .i64 b].toArray)) (hy : ev l y = some (.agg [.int .i64 c, .int .i64 d].toArray)) : Ex Tryz.prog l (.binOp .neq 75 x y t') ty w (.value (.bool (decide (¬ (a = c ∧ b = d))))) w := by
  have h := ex_agg (ty := ty) (t' := t') (w := w) (op := .neq) (P := Tryz.prog) (t := 75) (by kernel_rfl) (fun w => eq_bal a b c d w 9998) hx hy (.inr rfl)
  simp only [reduceCtorEq, if_false] at h
  rw [decide_not]; exact h
theorem ex_eql_bal {a b c d : Int} (hx : ev l x = some (.agg [.int .i64 a, .int .i64 b].toArray)) (hy : ev l y = some (.agg [.int .i64 c, .int .i64 d].toArray)) : Ex Tryz.prog l (.binOp .eql 75 x y t') ty w (.value (.bool (decide (a = c ∧ b = d)))) w := by
  have h := ex_agg (ty := ty) (t' := t') (w := w) (op := .eql) (P := Tryz.prog) (t := 75) (by kernel_rfl) (fun w => eq_bal a b c d w 9998) hx hy (.inl rfl)
  simp only [if_true] at h
  exact h
theorem eq_rt (r : Rt) (w : World) (n : Nat) : (Op.equalIn (n + 2) 35 (.agg (rtC r).toArray) (.agg (rtC r).toArray)).run Tryz.prog w = .ok true w := by
  have u3 := Tryz.underlying3
  have a3 := Tryz.isAgg3
  have z3 := Tryz.sizeOf3
  have u9 := Tryz.underlying9
  have a9 := Tryz.isAgg9
  have z9 := Tryz.sizeOf9
  have hS : Tryz.prog.underlying 35 = some (.struct (Tryz.prog.fieldsOf 35)) := by kernel_rfl
  have hp : Tryz.prog.stoodInHeld 35 = false := by kernel_rfl
  rw [show (n + 2 : Nat) = (n + 1) + 1 from rfl, run_equalIn_agg w (n + 1) 35 _ _ hS hp]
  simp only [Program.fieldsOf, Tryz.underlying35, rtC, strV]
  go_simp
theorem ex_neq_rt {r : Rt} (hx : ev l x = some (.agg (rtC r).toArray)) (hy : ev l y = some (.agg (rtC r).toArray)) : Ex Tryz.prog l (.binOp .neq 35 x y t') ty w (.value (.bool false)) w := by
  have h := ex_agg (ty := ty) (t' := t') (w := w) (op := .neq) (P := Tryz.prog) (t := 35) (by kernel_rfl) (fun w => eq_rt r w 9998) hx hy (.inr rfl)
  simpa using h
theorem eq_an (w : World) (n : Nat) : (Op.equalIn (n + 2) 108 (.agg [.int .i64 0, .int .i64 0, .int .i64 0, .int .i64 0].toArray) (.agg [.int .i64 0, .int .i64 0, .int .i64 0, .int .i64 0].toArray)).run Tryz.prog w = .ok true w := by
  have u3 := Tryz.underlying3
  have a3 := Tryz.isAgg3
  have z3 := Tryz.sizeOf3
  have u9 := Tryz.underlying24
  have a9 := Tryz.isAgg24
  have z9 := Tryz.sizeOf24
  have hS : Tryz.prog.underlying 108 = some (.struct (Tryz.prog.fieldsOf 108)) := by kernel_rfl
  have hp : Tryz.prog.stoodInHeld 108 = false := by kernel_rfl
  rw [show (n + 2 : Nat) = (n + 1) + 1 from rfl, run_equalIn_agg w (n + 1) 108 _ _ hS hp]
  simp only [Program.fieldsOf, Tryz.underlying108]
  go_simp
theorem eq_mk (m : Mk) (w : World) (n : Nat) : (Op.equalIn (n + 3) 110 (.agg (mkC m).toArray) (.agg (mkC m).toArray)).run Tryz.prog w = .ok true w := by
  have u3 := Tryz.underlying3
  have a3 := Tryz.isAgg3
  have z3 := Tryz.sizeOf3
  have u4 := Tryz.underlying4
  have a4 := Tryz.isAgg4
  have z4 := Tryz.sizeOf4
  have a5 := Tryz.isAgg108
  have z5 := Tryz.sizeOf108
  have e5 := fun w => eq_an w n
  have hS : Tryz.prog.underlying 110 = some (.struct (Tryz.prog.fieldsOf 110)) := by kernel_rfl
  have hp : Tryz.prog.stoodInHeld 110 = false := by kernel_rfl
  rw [show (n + 3 : Nat) = (n + 2) + 1 from rfl, run_equalIn_agg w (n + 2) 110 _ _ hS hp]
  simp only [Program.fieldsOf, Tryz.underlying110, mkC]
  simp only [List.toArray] at e5 ⊢
  go_simp
theorem ex_neq_mk {m : Mk} (hx : ev l x = some (.agg (mkC m).toArray)) (hy : ev l y = some (.agg (mkC m).toArray)) : Ex Tryz.prog l (.binOp .neq 110 x y t') ty w (.value (.bool false)) w := by
  have h := ex_agg (ty := ty) (t' := t') (w := w) (op := .neq) (P := Tryz.prog) (t := 110) (by kernel_rfl) (fun w => eq_mk m w 9997) hx hy (.inr rfl)
  simpa using h
end
end Go.Proofs.YtjoeklkmnfaabaaGreat
/-
  Lists in memory: cuts, predicates and orders as closures, what is found and what is let go.
-/
namespace Go.Proofs.YtjoeklkmnfaabaaGreat
open Go Go.RowKit

section
variable {P : Program} {l : List Value} {w : World} {ty t : TypeId} {x : Operand} {zs : List Value} {sz bytes : Nat} {agg : Bool}
theorem ex_lo {e : TypeId} (ht : P.underlying t = some (.slice e)) (he : TyOk P e zs sz bytes agg) {a : Addr} {len c i : Nat} {lo : Int} {kl : IntKind} {xl : Operand} (hx : ev l x = some (.slice (some a) len c)) (hl : ev l xl = some (.int kl lo)) (hi : lo = (i : Int)) (h : i ≤ len) (hc : i < c) :
    Ex P l (.slice t x (some xl) none none) ty w (.value (.slice (some (a.add (i * sz))) (len - i) (c - i))) w := by
  subst hi
  have h1 := ex_cutLo (ty := ty) (w := w) ht he hx hl ⟨by omega, by omega⟩
  have h2 : cutAddr (some a) (i : Int).toNat c sz = some (a.add (i * sz)) := by
    unfold cutAddr
    rw [if_neg (by omega)]
    rfl
  rw [h2] at h1
  exact h1
theorem ex_hi {e : TypeId} (ht : P.underlying t = some (.slice e)) (he : TyOk P e zs sz bytes agg) {A : Option Addr} {len c i : Nat} {hi : Int} {kh : IntKind} {xh : Operand} (hx : ev l x = some (.slice A len c)) (hh : ev l xh = some (.int kh hi)) (hi' : hi = (i : Int)) (h : i ≤ c) :
    Ex P l (.slice t x none (some xh) none) ty w (.value (.slice A i c)) w := by
  subst hi'
  exact ex_cutHi ht he hx hh ⟨by omega, by omega⟩
end
/-- A slice in new memory of its own: its cells, and room behind them. -/
def Rw (w0 w' : World) (r : Value) (T sz n : Nat) (cs : List Value) : Prop :=
  ∃ g cap sp, r = .slice (hd g) n cap ∧ n ≤ cap ∧ cap * sz ≤ (cs ++ sp).length ∧ (g = none → cap = 0) ∧ Hp w0 w' [] [(g, T, cs ++ sp)]
theorem nminl {a b : Nat} (h : a ≤ b) : Nat.min a b = a := Nat.min_eq_left h
theorem Rd.headN {w : World} {A : Option Addr} {n sz i : Nat} {xs : List Value} (h : Rd w A n sz xs) (hi : i ≤ n) (hA : A = none → i = 0) : Rd w A i sz (xs.take (i * sz)) := by
  have hm : i * sz ≤ n * sz := Nat.mul_le_mul_right _ hi
  refine ⟨?_, fun a ha j u hu => ?_, hA⟩
  · rw [List.length_take, h.len]; omega
  · rw [List.getElem?_take] at hu
    split at hu
    · exact h.cells a ha j u hu
    · cases hu
/-- A closure that tells of an element whether it is so; what it has captured lies in one block. -/
def Prd (P : Program) (k : FuncId) (gc : Nat) (pr : List Value → Bool) (ps : List (List Value)) (w0 : World) : Prop :=
  goFn P k = true ∧ gc < w0.heap.size ∧ ∀ w1, w1.heap[gc]? = w0.heap[gc]? → ∀ p ∈ ps, Does P k #[.agg p.toArray, .pointer (some ⟨gc, 0, none⟩)] w1 (fun r w' => r = .bool (pr p) ∧ Hp w1 w' [] [])
theorem Prd.to {P : Program} {k : FuncId} {gc : Nat} {pr : List Value → Bool} {ps : List (List Value)} {w0 w : World} {S : List Nat} {es : List Ent} (h : Prd P k gc pr ps w0) (H : Hp w0 w S es) (hS : gc ∉ S) : Prd P k gc pr ps w :=
  ⟨h.1, Nat.lt_of_lt_of_le h.2.1 H.size, fun w1 h1 => h.2.2 w1 (h1.trans (H.frame gc h.2.1 hS))⟩
/-- A function that orders elements against one thing. -/
structure Cmp (P : Program) (k : FuncId) (tv : Value) (cf : List Value → Int) (ps : List (List Value)) : Prop where
  go : goFn P k = true
  does : ∀ w1, ∀ p ∈ ps, Does P k #[.agg p.toArray, tv] w1 (fun r w' => r = .int .i64 (cf p) ∧ Hp w1 w' [] [])
  mono : ∀ (i j : Nat) (p q : List Value), i ≤ j → ps[i]? = some p → ps[j]? = some q → cf q < 0 → cf p < 0
/-- Where a thing stands, or would stand. -/
structure Found (ps : List (List Value)) (cf : List Value → Int) (i : Nat) (f : Bool) : Prop where
  le : i ≤ ps.length
  lo : ∀ (k : Nat) (p : List Value), k < i → ps[k]? = some p → cf p < 0
  hi : ∀ (k : Nat) (p : List Value), i ≤ k → ps[k]? = some p → 0 ≤ cf p
  yes : f = true → ∃ p, ps[i]? = some p ∧ cf p = 0
  no : f = false → ∀ p, ps[i]? = some p → cf p ≠ 0
def IdxR (ps : List (List Value)) (pr : List Value → Bool) (y : Int) : Prop :=
  (y = -1 ∧ ∀ p ∈ ps, pr p = false) ∨ ∃ (j : Nat) (p : List Value), y = (j : Int) ∧ ps[j]? = some p ∧ pr p = true ∧ ∀ q ∈ ps.take j, pr q = false
theorem take_snoc {α : Type} {l : List α} {j : Nat} {p : α} (h : l[j]? = some p) : l.take (j + 1) = l.take j ++ [p] := by
  obtain ⟨hl, rfl⟩ := List.getElem?_eq_some_iff.1 h
  rw [List.take_succ_eq_append_getElem hl]
theorem get_of {α : Type} {l : List α} {j : Nat} (h : j < l.length) : ∃ p, l[j]? = some p := ⟨_, List.getElem?_eq_getElem h⟩
theorem mem_of {α : Type} {l : List α} {j : Nat} {p : α} (h : l[j]? = some p) : p ∈ l := List.mem_of_getElem? h
theorem filter_none {ps : List (List Value)} {pr : List Value → Bool} (h : ∀ p ∈ ps, pr p = false) : ps.filter (fun p => !pr p) = ps := List.filter_eq_self.2 fun p hp => by rw [h p hp]; rfl
theorem take_all_snoc {ps : List (List Value)} {pr : List Value → Bool} {j : Nat} {p : List Value} (h : ∀ q ∈ ps.take j, pr q = false) (hp : ps[j]? = some p) (hf : pr p = false) : ∀ q ∈ ps.take (j + 1), pr q = false := by
  rw [take_snoc hp]
  intro q hq
  rcases List.mem_append.1 hq with hq | hq
  · exact h q hq
  · rw [List.mem_singleton.1 hq]; exact hf
/-- Of elements those that stay have moved to the front: so many were looked at. -/
structure Del (ps qs : List (List Value)) (pr : List Value → Bool) (i j sz : Nat) : Prop where
  len : qs.length = ps.length
  pl : Pl sz qs
  lt : i < j
  le : j ≤ ps.length
  rest : qs.drop j = ps.drop j
  kept : qs.take i = (ps.take j).filter fun p => !pr p
theorem Del.start {ps : List (List Value)} {pr : List Value → Bool} {j sz : Nat} {p : List Value} (hp : Pl sz ps) (hj : ps[j]? = some p) (ht : pr p = true) (hn : ∀ q ∈ ps.take j, pr q = false) : Del ps ps pr j (j + 1) sz := by
  refine ⟨rfl, hp, by omega, lt_of_get hj, rfl, ?_⟩
  rw [take_snoc hj, List.filter_append, filter_none hn]
  simp [ht]
theorem Del.skip {ps qs : List (List Value)} {pr : List Value → Bool} {i j sz : Nat} {p : List Value} (h : Del ps qs pr i j sz) (hj : ps[j]? = some p) (ht : pr p = true) : Del ps qs pr i (j + 1) sz := by
  have h1 := h.lt
  refine ⟨h.len, h.pl, by omega, lt_of_get hj, ?_, ?_⟩
  · have := congrArg (List.drop 1) h.rest
    simpa [List.drop_drop] using this
  · rw [take_snoc hj, List.filter_append, h.kept]
    simp [ht]
theorem Del.keep {ps qs : List (List Value)} {pr : List Value → Bool} {i j sz : Nat} {p : List Value} (h : Del ps qs pr i j sz) (hj : ps[j]? = some p) (ht : pr p = false) (hl : p.length = sz) : Del ps (qs.set i p) pr (i + 1) (j + 1) sz := by
  have h1 := h.lt
  have h2 := lt_of_get hj
  have h3 := h.len
  refine ⟨by rw [List.length_set]; exact h.len, h.pl.set_len hl, by omega, h2, ?_, ?_⟩
  · rw [List.drop_set_of_lt (by omega)]
    have := congrArg (List.drop 1) h.rest
    simpa [List.drop_drop] using this
  · rw [take_snoc hj, List.filter_append, ← h.kept]
    have h4 : (qs.set i p)[i]? = some p := by rw [List.getElem?_set_self (by omega)]
    rw [take_snoc h4, List.take_set_of_le (Nat.le_refl i)]
    simp [ht]
theorem Del.at {ps qs : List (List Value)} {pr : List Value → Bool} {i j sz : Nat} (h : Del ps qs pr i j sz) : qs[j]? = ps[j]? := by
  have h1 := congrArg (fun l => l[0]?) h.rest
  simpa using h1
theorem Del.done {ps qs : List (List Value)} {pr : List Value → Bool} {i sz : Nat} (h : Del ps qs pr i ps.length sz) : qs.take i = (ps.filter fun p => !pr p) ∧ (ps.filter fun p => !pr p).length = i := by
  have h1 := h.kept
  rw [List.take_length] at h1
  refine ⟨h1, ?_⟩
  have h2 := h.lt
  have h3 := h.len
  rw [← h1, List.length_take]; omega
theorem Del.cells {ps qs : List (List Value)} {pr : List Value → Bool} {i sz n : Nat} {sp vs : List Value} (h : Del ps qs pr i ps.length sz) (_ : n = 0) : putAt (qs.flatten ++ sp) (n + i * sz) vs = (ps.filter fun p => !pr p).flatten ++ (vs ++ (qs.flatten ++ sp).drop (n + i * sz + vs.length)) := by
  subst n
  have h1 := h.lt
  have h2 := h.len
  have h3 : i * sz ≤ qs.flatten.length := by rw [h.pl.len]; exact Nat.mul_le_mul_right _ (by omega)
  unfold putAt
  rw [Nat.zero_add, List.take_append_of_le_length h3, h.pl.take_, h.done.1, List.append_assoc]
theorem putAt_len {cs vs : List Value} {o : Nat} (h : o + vs.length ≤ cs.length) : (putAt cs o vs).length = cs.length := by
  simp only [putAt, List.length_append, List.length_take, List.length_drop]; omega
/-- A thing put in between. -/
theorem ins_new {cs vs zs sp : List Value} {i n sz : Nat} {ps : List (List Value)} (hp : Pl sz ps) (hn : ps.length = n) (hi : i ≤ n) (hv : vs.length = sz) (hz : zs.length = (n + 1 - i) * sz) (hc : cs = ((ps.flatten.take (i * sz)) ++ zs) ++ sp) :
    putAt (putAt cs (i * sz) vs) ((i + 1) * sz) (ps.flatten.drop (i * sz)) = (ps.take i ++ vs :: ps.drop i).flatten ++ sp := by
  have hl : (ps.flatten.take (i * sz)).length = i * sz := by rw [List.length_take, hp.len, hn]; exact Nat.min_eq_left (Nat.mul_le_mul_right _ hi)
  have hd : (ps.flatten.drop (i * sz)).length = (n - i) * sz := by rw [List.length_drop, hp.len, hn, ← Nat.sub_mul]
  have hz2 : zs.length = sz + (n - i) * sz := by rw [hz, show n + 1 - i = (n - i) + 1 by omega, Nat.add_mul]; omega
  have hs : (i + 1) * sz = i * sz + sz := by rw [Nat.add_mul]; omega
  subst hc
  obtain ⟨a, ha⟩ : ∃ a, ps.flatten.take (i * sz) = a := ⟨_, rfl⟩
  obtain ⟨b, hb⟩ : ∃ b, ps.flatten.drop (i * sz) = b := ⟨_, rfl⟩
  rw [List.flatten_append, List.flatten_cons, ← hp.take_, ← hp.drop_, ha, hb]
  rw [ha] at hl
  rw [hb] at hd
  have e1 : putAt ((a ++ zs) ++ sp) (i * sz) vs = (a ++ vs) ++ (zs.drop sz ++ sp) := by
    unfold putAt
    rw [List.append_assoc a, List.take_left' hl, hv, ← List.drop_drop, List.drop_left' hl, List.drop_append_of_le_length (by omega)]
  have hl2 : (a ++ vs).length = (i + 1) * sz := by rw [List.length_append, hl, hv, hs]
  have hl3 : (zs.drop sz).length = b.length := by rw [List.length_drop, hz2, hd]; omega
  rw [e1]
  unfold putAt
  rw [List.take_left' hl2, ← List.drop_drop, List.drop_left' hl2, List.drop_left' hl3]
  simp
theorem ins_in {vs sp : List Value} {i n sz : Nat} {ps : List (List Value)} (hp : Pl sz ps) (hn : ps.length = n) (hi : i ≤ n) (hv : vs.length = sz) (hs : sz ≤ sp.length) :
    putAt (putAt (ps.flatten ++ sp) ((i + 1) * sz) (ps.flatten.drop (i * sz))) (i * sz) vs = (ps.take i ++ vs :: ps.drop i).flatten ++ sp.drop sz := by
  have hl : (ps.flatten.take (i * sz)).length = i * sz := by rw [List.length_take, hp.len, hn]; exact Nat.min_eq_left (Nat.mul_le_mul_right _ hi)
  have hd : (ps.flatten.drop (i * sz)).length = (n - i) * sz := by rw [List.length_drop, hp.len, hn, ← Nat.sub_mul]
  have hss : (i + 1) * sz = i * sz + sz := by rw [Nat.add_mul]; omega
  have hall : ps.flatten.length = i * sz + (n - i) * sz := by rw [hp.len, hn, ← Nat.add_mul]; congr 1; omega
  have e0 : ps.flatten ++ sp = ps.flatten.take (i * sz) ++ (ps.flatten.drop (i * sz) ++ sp) := by rw [← List.append_assoc, List.take_append_drop]
  obtain ⟨a, ha⟩ : ∃ a, ps.flatten.take (i * sz) = a := ⟨_, rfl⟩
  obtain ⟨b, hb⟩ : ∃ b, ps.flatten.drop (i * sz) = b := ⟨_, rfl⟩
  rw [e0, List.flatten_append, List.flatten_cons, ← hp.take_, ← hp.drop_, ha, hb]
  rw [ha] at hl
  rw [hb] at hd
  have e1 : putAt (a ++ (b ++ sp)) ((i + 1) * sz) b = a ++ ((b ++ sp).take sz ++ b) ++ sp.drop sz := by
    unfold putAt
    rw [hss, List.take_append, hl, List.take_of_length_le (by omega), Nat.add_sub_cancel_left, List.drop_append, hl, List.drop_of_length_le (by omega), show i * sz + sz + b.length - i * sz = b.length + sz by omega, ← List.drop_drop, List.drop_left]
    simp
  rw [e1]
  have h5 : ((b ++ sp).take sz).length = sz := by rw [List.length_take, List.length_append]; omega
  unfold putAt
  rw [List.append_assoc a, List.take_left' hl, hv, ← List.drop_drop, List.drop_left' hl, List.append_assoc ((b ++ sp).take sz), List.drop_left' h5]
  simp
end Go.Proofs.YtjoeklkmnfaabaaGreat
/-
  Plain laws: things put into sorted lists.
-/
namespace Go.Proofs.YtjoeklkmnfaabaaGreat
open Go Go.RowKit

def cmpI (a b : Int) : Int := if a < b then -1 else if b < a then 1 else 0
theorem cmpI_lt {a b : Int} : cmpI a b < 0 ↔ a < b := by unfold cmpI; repeat' split; all_goals omega
theorem cmpI_gt {a b : Int} : 0 < cmpI a b ↔ b < a := by unfold cmpI; repeat' split; all_goals omega
theorem cmpI_eq {a b : Int} : cmpI a b = 0 ↔ a = b := by unfold cmpI; repeat' split; all_goals omega
/-- A list whose things rise, strictly: against one thing. -/
def Rise {X : Type} (cf : X → Int) (xs : List X) : Prop := ∀ (i j : Nat) (a b : X), i < j → xs[i]? = some a → xs[j]? = some b → 0 ≤ cf a → 0 < cf b
theorem Rise.tail {X : Type} {cf : X → Int} {x : X} {xs : List X} (h : Rise cf (x :: xs)) : Rise cf xs := fun i j a b hij ha hb h0 => h (i + 1) (j + 1) a b (by omega) (by simpa using ha) (by simpa using hb) h0
theorem filter_all {X : Type} {f : X → Bool} {xs : List X} (h : ∀ x ∈ xs, f x = true) : xs.filter f = xs := List.filter_eq_self.2 h
theorem filter_no {X : Type} {f : X → Bool} {xs : List X} (h : ∀ x ∈ xs, f x = false) : xs.filter f = [] := List.filter_eq_nil_iff.2 fun x hx => by rw [h x hx]; simp
theorem Rise.put {X : Type} {cf : X → Int} {v : X} : ∀ {xs : List X} {i : Nat} {f : Bool}, Rise cf xs → i ≤ xs.length → (∀ (k : Nat) (a : X), k < i → xs[k]? = some a → cf a < 0) → (∀ (k : Nat) (a : X), i ≤ k → xs[k]? = some a → 0 ≤ cf a) →
    (f = true → ∃ a, xs[i]? = some a ∧ cf a = 0) → (f = false → ∀ a, xs[i]? = some a → cf a ≠ 0) →
    xs.filter (fun x => decide (cf x < 0)) ++ v :: xs.filter (fun x => decide (0 < cf x)) = if f = true then xs.set i v else xs.take i ++ v :: xs.drop i
  | [], i, f, _, hi, _, _, hy, _ => by
    obtain rfl : i = 0 := by simpa using hi
    cases f with
    | true => obtain ⟨a, ha, _⟩ := hy rfl; simp at ha
    | false => simp
  | x :: xs, 0, f, hr, _, _, hhi, hy, hno => by
    have h0 : 0 ≤ cf x := hhi 0 x (Nat.le_refl _) rfl
    have hall : ∀ a ∈ xs, 0 < cf a := fun a ha => by
      obtain ⟨k, hk⟩ := List.getElem?_of_mem ha
      exact hr 0 (k + 1) x a (by omega) rfl (by simpa using hk) h0
    have e1 : xs.filter (fun x => decide (cf x < 0)) = [] := filter_no fun a ha => by have := hall a ha; simp; omega
    have e2 : xs.filter (fun x => decide (0 < cf x)) = xs := filter_all fun a ha => by simpa using hall a ha
    rw [List.filter_cons, List.filter_cons, e1, e2, if_neg (by simp; omega)]
    cases f with
    | true =>
      obtain ⟨a, ha, hz⟩ := hy rfl
      simp only [List.getElem?_cons_zero, Option.some.injEq] at ha
      subst ha
      rw [if_neg (by simp; omega)]
      simp
    | false =>
      have := hno rfl x rfl
      rw [if_pos (by simp; omega)]
      simp
  | x :: xs, i + 1, f, hr, hi, hlo, hhi, hy, hno => by
    have h0 : cf x < 0 := hlo 0 x (by omega) rfl
    have ih := Rise.put (v := v) (i := i) (f := f) hr.tail (by simpa using hi) (fun k a hk ha => hlo (k + 1) a (by omega) (by simpa using ha)) (fun k a hk ha => hhi (k + 1) a (by omega) (by simpa using ha)) (fun h => by simpa using hy h) (fun h a ha => hno h a (by simpa using ha))
    rw [List.filter_cons, List.filter_cons, if_pos (by simpa using h0), if_neg (by simp; omega), List.cons_append, ih]
    cases f <;> simp
/-- .. as the cells tell it. -/
theorem Found.put {X : Type} {R : List Value → X → Prop} {cp : List Value → Int} {cf : X → Int} {ps : List (List Value)} {xs : List X} {i : Nat} {f : Bool} {v : X} (h : Found ps cp i f) (h2 : All2 R ps xs) (hc : ∀ p x, R p x → cp p = cf x) (hr : Rise cf xs) :
    xs.filter (fun x => decide (cf x < 0)) ++ v :: xs.filter (fun x => decide (0 < cf x)) = if f = true then xs.set i v else xs.take i ++ v :: xs.drop i := by
  refine hr.put (by rw [← h2.len]; exact h.le) (fun k a hk ha => ?_) (fun k a hk ha => ?_) (fun hf => ?_) (fun hf a ha => ?_)
  · obtain ⟨p, hp, hR⟩ := h2.get ha
    rw [← hc p a hR]; exact h.lo k p hk hp
  · obtain ⟨p, hp, hR⟩ := h2.get ha
    rw [← hc p a hR]; exact h.hi k p hk hp
  · obtain ⟨p, hp, h0⟩ := h.yes hf
    obtain ⟨x, hx, hR⟩ := h2.getL hp
    exact ⟨x, hx, by rw [← hc p x hR]; exact h0⟩
  · obtain ⟨p, hp, hR⟩ := h2.get ha
    rw [← hc p a hR]; exact h.no hf p hp
/-- What orders the things orders their cells. -/
theorem Rise.mono {X : Type} {R : List Value → X → Prop} {cp : List Value → Int} {cf : X → Int} {ps : List (List Value)} {xs : List X} (hr : Rise cf xs) (h2 : All2 R ps xs) (hc : ∀ p x, R p x → cp p = cf x) : ∀ (i j : Nat) (p q : List Value), i ≤ j → ps[i]? = some p → ps[j]? = some q → cp q < 0 → cp p < 0 := by
  intro i j p q hij hp hq h0
  rcases Nat.eq_or_lt_of_le hij with rfl | h
  · rw [hp] at hq; cases hq; exact h0
  · obtain ⟨x, hx, hR⟩ := h2.getL hp
    obtain ⟨y, hy, hR2⟩ := h2.getL hq
    rw [hc p x hR]
    rw [hc q y hR2] at h0
    rcases Int.lt_or_le (cf x) 0 with h3 | h3
    · exact h3
    · have := hr i j x y h hx hy h3; omega

/-! Votes. -/
def vtCf (n : Int) (p : List Value) : Int := match p with
  | .int _ s :: _ => cmpI s n
  | _ => 0
theorem vtCf_eq {w : World} {ok : Nat → Prop} {n : Int} {p : List Value} {x : Vt} (h : VtR w ok p x) : vtCf n p = cmpI x.slot n := by obtain ⟨_, _, rfl, _⟩ := h; rfl
theorem vts_rise {p : Bal} {first : Int} : ∀ {l : List Vt} {n : Int}, vtsOk p first n l = true → (∀ x ∈ l, n ≤ x.slot) ∧ ∀ (i j : Nat) (a b : Vt), i < j → l[i]? = some a → l[j]? = some b → a.slot < b.slot
  | [], _, _ => ⟨(fun _ h => by cases h), fun i j a b _ h => by simp at h⟩
  | v :: l, n, h => by
    simp only [vtsOk, Bool.and_eq_true, decide_eq_true_eq] at h
    obtain ⟨h1, h2⟩ := vts_rise h.2
    refine ⟨fun x hx => ?_, fun i j a b hij ha hb => ?_⟩
    · rcases List.mem_cons.1 hx with rfl | hx
      · exact h.1.1
      · have := h1 x hx; omega
    · obtain ⟨j, rfl⟩ : ∃ k, j = k + 1 := ⟨j - 1, by omega⟩
      simp only [List.getElem?_cons_succ] at hb
      cases i with
      | zero =>
        simp only [List.getElem?_cons_zero, Option.some.injEq] at ha
        subst ha
        have := h1 b (List.mem_of_getElem? hb); omega
      | succ i =>
        simp only [List.getElem?_cons_succ] at ha
        exact h2 i j a b (by omega) ha hb
theorem rise_vt {l : List Vt} (h : ∀ (i j : Nat) (a b : Vt), i < j → l[i]? = some a → l[j]? = some b → a.slot < b.slot) (n : Int) : Rise (fun x : Vt => cmpI x.slot n) l := fun i j a b hij ha hb h0 => by
  have h1 := h i j a b hij ha hb
  have h0' : 0 ≤ cmpI a.slot n := h0
  have h2 : ¬ a.slot < n := fun hh => by have := cmpI_lt.2 hh; omega
  exact cmpI_gt.2 (by omega)
theorem putVt_eq (l : List Vt) (v : Vt) : putVt l v = l.filter (fun x => decide (cmpI x.slot v.slot < 0)) ++ v :: l.filter (fun x => decide (0 < cmpI x.slot v.slot)) := by
  unfold putVt
  congr 1
  · exact List.filter_congr fun x _ => by rw [decide_eq_decide]; exact cmpI_lt.symm
  · congr 1
    exact List.filter_congr fun x _ => by rw [decide_eq_decide]; exact cmpI_gt.symm
theorem vts_len {p : Bal} {first : Int} : ∀ {l : List Vt} {n : Int}, vtsOk p first n l = true → n ≤ first + 16 → (l.length : Int) ≤ first + 16 - n
  | [], n, _, h => by simp; omega
  | v :: l, n, h, hn => by
    simp only [vtsOk, Bool.and_eq_true, decide_eq_true_eq] at h
    have := vts_len h.2 (by omega)
    rw [List.length_cons]; omega

/-! Marks. -/
def mkCf (n : Int) (p : List Value) : Int := match p with
  | .int _ s :: _ => cmpI s n
  | _ => 0
theorem mkCf_eq {n : Int} {p : List Value} {x : Mk} (h : MkR p x) : mkCf n p = cmpI x.client n := by rw [h]; rfl
theorem mks_rise : ∀ {l : List Mk} {n : Int}, mksOk n l → (∀ x ∈ l, n < x.client ∧ x.client ≤ 8 ∧ 1 ≤ x.seq ∧ x.seq ≤ 4611686018427387904) ∧ ∀ (i j : Nat) (a b : Mk), i < j → l[i]? = some a → l[j]? = some b → a.client < b.client
  | [], _, _ => ⟨(fun _ h => by cases h), fun i j a b _ h => by simp at h⟩
  | v :: l, n, h => by
    obtain ⟨h1, h2⟩ := mks_rise h.2.2.2.2
    refine ⟨fun x hx => ?_, fun i j a b hij ha hb => ?_⟩
    · rcases List.mem_cons.1 hx with rfl | hx
      · exact ⟨h.1, h.2.1, h.2.2.1, h.2.2.2.1⟩
      · have h3 := h1 x hx
        have h4 := h.1
        exact ⟨by omega, h3.2⟩
    · obtain ⟨j, rfl⟩ : ∃ k, j = k + 1 := ⟨j - 1, by omega⟩
      simp only [List.getElem?_cons_succ] at hb
      cases i with
      | zero =>
        simp only [List.getElem?_cons_zero, Option.some.injEq] at ha
        subst ha
        exact (h1 b (List.mem_of_getElem? hb)).1
      | succ i =>
        simp only [List.getElem?_cons_succ] at ha
        exact h2 i j a b (by omega) ha hb
theorem rise_mk {l : List Mk} (h : ∀ (i j : Nat) (a b : Mk), i < j → l[i]? = some a → l[j]? = some b → a.client < b.client) (n : Int) : Rise (fun x : Mk => cmpI x.client n) l := fun i j a b hij ha hb h0 => by
  have h1 := h i j a b hij ha hb
  have h0' : 0 ≤ cmpI a.client n := h0
  have h2 : ¬ a.client < n := fun hh => by have := cmpI_lt.2 hh; omega
  exact cmpI_gt.2 (by omega)
theorem putMk_eq (l : List Mk) (v : Mk) : putMk l v = l.filter (fun x => decide (cmpI x.client v.client < 0)) ++ v :: l.filter (fun x => decide (0 < cmpI x.client v.client)) := by
  unfold putMk
  congr 1
  · exact List.filter_congr fun x _ => by rw [decide_eq_decide]; exact cmpI_lt.symm
  · congr 1
    exact List.filter_congr fun x _ => by rw [decide_eq_decide]; exact cmpI_gt.symm

/-! Rights. -/
def ordR (a b : Rt) : Int := if a.g ≠ b.g then (if a.g < b.g then -1 else 1) else Lib.compareBytes a.key b.key
theorem cb_lt : ∀ a b : Blk, Lib.compareBytes a b < 0 ↔ Op.bytesLess a b = true
  | [], [] => by simp [Lib.compareBytes, Op.bytesLess]
  | [], b :: bs => by simp [Lib.compareBytes, Op.bytesLess]
  | a :: as', [] => by simp [Lib.compareBytes, Op.bytesLess]
  | a :: x, b :: y => by
    have ih := cb_lt x y
    unfold Lib.compareBytes Op.bytesLess
    by_cases h1 : a < b
    · simp [h1]
    · by_cases h2 : b < a
      · have h3 : ¬ a = b := fun h => by subst h; exact absurd h2 h1
        simp [h1, h2, h3]
      · have h3 : a = b := UInt8.le_antisymm (UInt8.not_lt.1 h2) (UInt8.not_lt.1 h1)
        subst h3
        simp [ih]
theorem cb_gt : ∀ a b : Blk, 0 < Lib.compareBytes a b ↔ Op.bytesLess b a = true
  | [], [] => by simp [Lib.compareBytes, Op.bytesLess]
  | [], b :: bs => by simp [Lib.compareBytes, Op.bytesLess]
  | a :: as', [] => by simp [Lib.compareBytes, Op.bytesLess]
  | a :: x, b :: y => by
    have ih := cb_gt x y
    unfold Lib.compareBytes Op.bytesLess
    by_cases h1 : a < b
    · have h3 : ¬ b < a := fun h => UInt8.lt_irrefl _ (UInt8.lt_trans h1 h)
      have h4 : ¬ b = a := fun h => by subst h; exact UInt8.lt_irrefl _ h1
      simp [h1, h3, h4]
    · by_cases h2 : b < a
      · simp [h1, h2]
      · have h3 : a = b := UInt8.le_antisymm (UInt8.not_lt.1 h2) (UInt8.not_lt.1 h1)
        subst h3
        simp [ih]
theorem bl_trans : ∀ {a b c : Blk}, Op.bytesLess a b = true → Op.bytesLess b c = true → Op.bytesLess a c = true
  | _, [], _, h, _ => by unfold Op.bytesLess at h; cases h
  | _, _ :: _, [], _, h => by unfold Op.bytesLess at h; cases h
  | [], _ :: _, _ :: _, _, _ => by unfold Op.bytesLess; rfl
  | a :: x, b :: y, c :: z, h1, h2 => by
    unfold Op.bytesLess at h1 h2 ⊢
    simp only [Bool.or_eq_true, Bool.and_eq_true, decide_eq_true_eq, beq_iff_eq] at h1 h2 ⊢
    rcases h1 with h1 | ⟨rfl, h1⟩ <;> rcases h2 with h2 | ⟨rfl, h2⟩
    · exact .inl (UInt8.lt_trans h1 h2)
    · exact .inl h1
    · exact .inl h2
    · exact .inr ⟨rfl, bl_trans h1 h2⟩
theorem bl_irr : ∀ a : Blk, Op.bytesLess a a = false
  | [] => rfl
  | a :: x => by unfold Op.bytesLess; simp [bl_irr x]
theorem ordR_lt {a b : Rt} : ordR a b < 0 ↔ ltR a b = true := by
  unfold ordR ltR
  by_cases h : a.g = b.g
  · rw [if_neg (by simpa using h)]
    simp [h, cb_lt]
  · rw [if_pos h]
    by_cases h2 : a.g < b.g <;> simp [h, h2]
theorem ordR_gt {a b : Rt} : 0 < ordR a b ↔ ltR b a = true := by
  unfold ordR ltR
  by_cases h : a.g = b.g
  · rw [if_neg (by simpa using h)]
    simp [h, cb_gt]
  · rw [if_pos h]
    by_cases h2 : a.g < b.g
    · simp [h2, Ne.symm h]; omega
    · simp [h2, Ne.symm h]; omega
theorem ltR_trans {a b c : Rt} (h1 : ltR a b = true) (h2 : ltR b c = true) : ltR a c = true := by
  unfold ltR at *
  simp only [Bool.or_eq_true, Bool.and_eq_true, decide_eq_true_eq] at *
  rcases h1 with h1 | ⟨h1, h3⟩ <;> rcases h2 with h2 | ⟨h2, h4⟩
  · exact .inl (by omega)
  · exact .inl (by omega)
  · exact .inl (by omega)
  · exact .inr ⟨by omega, bl_trans h3 h4⟩
theorem ltR_irr (a : Rt) : ltR a a = false := by unfold ltR; simp [bl_irr]
theorem cb_zero : ∀ a b : Blk, Lib.compareBytes a b = 0 → a = b
  | [], [], _ => rfl
  | [], b :: bs, h => by simp [Lib.compareBytes] at h
  | a :: as', [], h => by simp [Lib.compareBytes] at h
  | a :: x, b :: y, h => by
    unfold Lib.compareBytes at h
    by_cases h1 : a < b
    · simp [h1] at h
    · by_cases h2 : b < a
      · simp [h1, h2] at h
      · have h3 : a = b := UInt8.le_antisymm (UInt8.not_lt.1 h2) (UInt8.not_lt.1 h1)
        subst h3
        rw [if_neg h1, if_neg h1] at h
        rw [cb_zero x y h]
theorem ordR_zero {a b : Rt} (h : ordR a b = 0) : a.g = b.g ∧ a.key = b.key := by
  unfold ordR at h
  by_cases hg : a.g = b.g
  · rw [if_neg (by simpa using hg)] at h
    exact ⟨hg, cb_zero _ _ h⟩
  · rw [if_pos hg] at h
    split at h <;> cases h
theorem rts_rise : ∀ {l : List Rt}, rtsOk l → (∀ x ∈ l, mayR x) ∧ ∀ (i j : Nat) (a b : Rt), i < j → l[i]? = some a → l[j]? = some b → ltR a b = true
  | [], _ => ⟨(fun _ h => by cases h), fun i j a b _ h => by simp at h⟩
  | v :: l, h => by
    obtain ⟨h1, h2⟩ := rts_rise h.2.2
    refine ⟨fun x hx => ?_, fun i j a b hij ha hb => ?_⟩
    · rcases List.mem_cons.1 hx with rfl | hx
      · exact h.1
      · exact h1 x hx
    · obtain ⟨j, rfl⟩ : ∃ k, j = k + 1 := ⟨j - 1, by omega⟩
      simp only [List.getElem?_cons_succ] at hb
      cases i with
      | zero =>
        simp only [List.getElem?_cons_zero, Option.some.injEq] at ha
        subst ha
        exact h.2.1 b (List.mem_of_getElem? hb)
      | succ i =>
        simp only [List.getElem?_cons_succ] at ha
        exact h2 i j a b (by omega) ha hb
theorem ordR_of {a b r : Rt} (h : ltR a b = true) (h0 : 0 ≤ ordR a r) : 0 < ordR b r := by
  rcases Int.lt_or_eq_of_le h0 with h1 | h1
  · exact ordR_gt.2 (ltR_trans (ordR_gt.1 h1) h)
  · obtain ⟨e1, e2⟩ := ordR_zero h1.symm
    refine ordR_gt.2 ?_
    unfold ltR at h ⊢
    rw [← e1, ← e2]; exact h
theorem rise_rt {l : List Rt} (h : ∀ (i j : Nat) (a b : Rt), i < j → l[i]? = some a → l[j]? = some b → ltR a b = true) (r : Rt) : Rise (fun x : Rt => ordR x r) l := fun i j a b hij ha hb h0 => ordR_of (h i j a b hij ha hb) h0
theorem putRt_eq (l : List Rt) (v : Rt) : putRt l v = l.filter (fun x => decide (ordR x v < 0)) ++ v :: l.filter (fun x => decide (0 < ordR x v)) := by
  unfold putRt
  congr 1
  · exact List.filter_congr fun x _ => by
      have := ordR_lt (a := x) (b := v)
      cases h : ltR x v <;> simp_all
  · congr 1
    exact List.filter_congr fun x _ => by
      have := ordR_gt (a := x) (b := v)
      cases h : ltR v x <;> simp_all
end Go.Proofs.YtjoeklkmnfaabaaGreat
/-
  Rows as what a vault has; closures that tell of votes, entries, marks, rights.
-/
namespace Go.Proofs.YtjoeklkmnfaabaaGreat
open Go Go.RowKit

def up (ok : Nat → Prop) (n : Nat) : Nat → Prop := fun b => ok b ∨ n ≤ b
@[reducible] def rz (p b : Bal) : Bal := if p.lt b then b else p
theorem raise_eq (s : Sv) (b : Bal) : s.raise b = { s with p := rz s.p b } := by
  unfold Sv.raise rz
  split <;> rfl
theorem cell_at {w : World} {g o : Nat} {cs : List Value} {T : TypeId} {v : Value} (h : w.heap[g]? = some (.cells cs.toArray T (0, 0))) (hv : cs[o]? = some v) : w.cell? ⟨g, o, none⟩ = some v := by
  simp [World.cell?, h, hv]
theorem store_elem {ps : List (List Value)} {sp vs : List Value} {i sz : Nat} (hp : Pl sz ps) (hi : i < ps.length) (hv : vs.length = sz) : putAt (ps.flatten ++ sp) (0 + i * sz) vs = (ps.set i vs).flatten ++ sp := by
  have : (i + 1) * sz ≤ ps.length * sz := Nat.mul_le_mul_right _ hi
  rw [Nat.add_mul, Nat.one_mul] at this
  rw [Nat.zero_add, putAt_left (by rw [hp.len, hv]; exact this), hp.set_ hi hv]
section
variable {w0 w w' : World} {S : List Nat} {es : List Ent} {ok ok' : Nat → Prop} {i : Nat} {g : Option Nat} {T : TypeId} {sp : List Value}
theorem Sl.row {X : Type} {R : List Value → X → Prop} {sz : Nat} {ps : List (List Value)} {xs : List X} (H : Hp w0 w S es) (he : es[i]? = some (g, T, ps.flatten ++ sp)) (hp : Pl sz ps) (hz : 0 < sz) (h2 : All2 R ps xs) (ha : ∀ b, g = some b → ok b) : Sl R sz w ok (hd g) xs := by
  have hl := h2.len
  refine ⟨ps, hp, ?_, fun _ p hq => ?_, h2⟩
  · rw [← hl]; exact H.rd he hp.len hz
  · cases g with
    | none => cases hq
    | some b => cases hq; exact ha b rfl
theorem Bs.row {b : Blk} (H : Hp w0 w S es) (he : es[i]? = some (g, T, u8s b ++ sp)) (hb : b.length ≤ 140737488351232) (ha : ∀ x, g = some x → ok x) : Bs w ok (hd g) b := by
  refine ⟨H.rd he (u8s_length1 b) (by decide), fun _ p hq => ?_, hb⟩
  cases g with
  | none => cases hq
  | some x => cases hq; exact ha x rfl
/-- A row that the call made. -/
theorem row_new (H : Hp w0 w S es) (he : es[i]? = some (g, T, sp)) (hS : ∀ b ∈ S, g ≠ some b) : ∀ b, g = some b → up ok w0.heap.size b := fun b hb => by
  subst hb
  rcases H.place he with h | h
  · exact absurd rfl (hS b h)
  · exact .inr h
theorem up_k {n : Nat} (h : ∀ x, ok x → x ∉ S) : ∀ x, ok x → x < n → x ∉ S ∧ up ok n x := fun x hx _ => ⟨h x hx, .inl hx⟩
theorem up_k0 {n m : Nat} : ∀ x, ok x → x < n → x ∉ ([] : List Nat) ∧ up ok m x := fun x hx _ => ⟨by simp, .inl hx⟩
end
/-- Votes up to a slot. -/
def vtLe (n : Int) (p : List Value) : Bool := match p with
  | .int _ s :: _ => decide (s ≤ n)
  | _ => false
theorem vtLe_eq {w : World} {ok : Nat → Prop} {n : Int} {p : List Value} {x : Vt} (h : VtR w ok p x) : vtLe n p = decide (x.slot ≤ n) := by obtain ⟨_, _, rfl, _⟩ := h; rfl
theorem enLe_eq {w : World} {ok : Nat → Prop} {n : Int} {p : List Value} {x : En} (h : EnR w ok p x) : vtLe n p = decide (x.slot ≤ n) := by obtain ⟨_, _, rfl, _⟩ := h; rfl
def mkIs (n : Int) (p : List Value) : Bool := match p with
  | .int _ s :: _ => decide (s = n)
  | _ => false
theorem mkIs_eq {n : Int} {p : List Value} {x : Mk} (h : MkR p x) : mkIs n p = decide (x.client = n) := by rw [h]; rfl
def rtCf (r : Rt) (p : List Value) : Int := match p with
  | [.int _ g, .string s, _, _] => ordR ⟨g, s.data.toList, 0, 0⟩ r
  | _ => 0
theorem rtCf_eq {r : Rt} {p : List Value} {x : Rt} (h : RtR p x) : rtCf r p = ordR x r := by rw [h]; simp [rtCf, rtC, strV, ordR]
theorem behind_eq (l : List Vt) (n : Int) : (l.filter fun x => !decide (x.slot ≤ n)) = behind l n := by
  unfold behind
  exact List.filter_congr fun x _ => by
    by_cases h : x.slot ≤ n
    · rw [decide_eq_true h, decide_eq_false (by omega)]; rfl
    · rw [decide_eq_false h, decide_eq_true (by omega)]; rfl
end Go.Proofs.YtjoeklkmnfaabaaGreat
/-
  Plain laws: what may have been saved, test by test.
-/
namespace Go.Proofs.YtjoeklkmnfaabaaGreat
open Go Go.RowKit

def ldOk (p : Bal) (first : Int) (l : List Vt) : Bool := decide (1 ≤ first ∧ first ≤ 1099511627776) && decide ((p.r = 0 ∧ p.n = 0) ∨ (1 ≤ p.r ∧ 1 ≤ p.n)) && vtsOk p first first l
section
variable {p : Bal} {first m : Int} {l r : List Vt} {x : Vt} {i : Nat} {s : Sv}
theorem ld_f1 (h : ¬ (1 ≤ first ∧ first ≤ 1099511627776)) : ldOk p first l = false := by unfold ldOk; rw [decide_eq_false h]; rfl
theorem ld_f2 (h : ¬ ((p.r = 0 ∧ p.n = 0) ∨ (1 ≤ p.r ∧ 1 ≤ p.n))) : ldOk p first l = false := by unfold ldOk; rw [decide_eq_false h, Bool.and_false, Bool.false_and]
theorem ld_v (h1 : 1 ≤ first ∧ first ≤ 1099511627776) (h2 : (p.r = 0 ∧ p.n = 0) ∨ (1 ≤ p.r ∧ 1 ≤ p.n)) : ldOk p first l = vtsOk p first first l := by unfold ldOk; rw [decide_eq_true h1, decide_eq_true h2]; rfl
theorem drop_cons {α : Type} {l : List α} {i : Nat} {x : α} (h : l[i]? = some x) : l.drop i = x :: l.drop (i + 1) := by
  obtain ⟨hl, rfl⟩ := List.getElem?_eq_some_iff.1 h
  exact List.drop_eq_getElem_cons hl
theorem vts_no (hx : l[i]? = some x) (h : ¬ (m ≤ x.slot ∧ x.slot < first + 16 ∧ 1 ≤ x.b.r ∧ 1 ≤ x.b.n ∧ ¬ p.lt x.b ∧ x.val.length ≤ 2048)) : vtsOk p first m (l.drop i) = false := by
  rw [drop_cons hx, vtsOk, decide_eq_false h]; rfl
theorem vts_go (hx : l[i]? = some x) (h : m ≤ x.slot ∧ x.slot < first + 16 ∧ 1 ≤ x.b.r ∧ 1 ≤ x.b.n ∧ ¬ p.lt x.b ∧ x.val.length ≤ 2048) : vtsOk p first m (l.drop i) = vtsOk p first (x.slot + 1) (l.drop (i + 1)) := by
  rw [drop_cons hx, vtsOk, decide_eq_true h, Bool.true_and]
theorem vts_end : vtsOk p first m (l.drop l.length) = true := by rw [List.drop_length]; rfl
theorem ent_no {l : List En} {x : En} (hx : l[i]? = some x) (h : ¬ (x.slot = m + 1 ∧ x.slot ≤ 1099511627776 ∧ x.val.length ≤ 2048)) : entOk m (l.drop i) = false := by
  rw [drop_cons hx, entOk, decide_eq_false h]; rfl
theorem ent_go {l : List En} {x : En} (hx : l[i]? = some x) (h : x.slot = m + 1 ∧ x.slot ≤ 1099511627776 ∧ x.val.length ≤ 2048) : entOk m (l.drop i) = entOk (m + 1) (l.drop (i + 1)) := by
  rw [drop_cons hx, entOk, decide_eq_true h, Bool.true_and]
theorem ent_end {l : List En} : entOk m (l.drop l.length) = true := by rw [List.drop_length]; rfl
theorem ents_slot : ∀ {l : List En} {n : Int}, entOk n l = true → ∀ (i : Nat) (x : En), l[i]? = some x → x.slot = n + 1 + i ∧ x.slot ≤ 1099511627776 ∧ x.val.length ≤ 2048
  | [], _, _, i, x, h => by simp at h
  | e :: l, n, h, i, x, hx => by
    simp only [entOk, Bool.and_eq_true, decide_eq_true_eq] at h
    cases i with
    | zero =>
      simp only [List.getElem?_cons_zero, Option.some.injEq] at hx
      subst hx
      have := h.1
      exact ⟨by omega, this.2⟩
    | succ i =>
      simp only [List.getElem?_cons_succ] at hx
      have := ents_slot h.2 i x hx
      have := h.1
      exact ⟨by omega, by omega, by omega⟩
theorem chk_f1 (h : ¬ ((s.p.r = 0 ∧ s.p.n = 0) ∨ (1 ≤ s.p.r ∧ 1 ≤ s.p.n ∧ s.p.n ≤ 5))) : chk s = false := by unfold chk; rw [decide_eq_false h]; rfl
theorem chk_f2 (h : ¬ (0 ≤ s.index ∧ s.index ≤ 1099511627776 ∧ (s.index = 0 → s.image.length = 0) ∧ s.image.length ≤ 8192)) : chk s = false := by unfold chk; rw [decide_eq_false h, Bool.and_false, Bool.false_and, Bool.false_and, Bool.false_and]
theorem chk_f3 (h : entOk s.index s.entries = false) : chk s = false := by unfold chk; rw [h, Bool.and_false, Bool.false_and, Bool.false_and]
theorem chk_ld (h1 : (s.p.r = 0 ∧ s.p.n = 0) ∨ (1 ≤ s.p.r ∧ 1 ≤ s.p.n ∧ s.p.n ≤ 5)) (h2 : 0 ≤ s.index ∧ s.index ≤ 1099511627776 ∧ (s.index = 0 → s.image.length = 0) ∧ s.image.length ≤ 8192) (h3 : entOk s.index s.entries = true) : chk s = ldOk s.p (s.index + s.entries.length + 1) s.votes := by
  unfold chk ldOk
  rw [decide_eq_true h1, decide_eq_true h2, h3, decide_eq_true (p := (s.p.r = 0 ∧ s.p.n = 0) ∨ (1 ≤ s.p.r ∧ 1 ≤ s.p.n)) (h1.imp id fun h => ⟨h.1, h.2.1⟩)]
  have e : decide (1 ≤ s.index + (s.entries.length : Int) + 1 ∧ s.index + (s.entries.length : Int) + 1 ≤ 1099511627776) = decide (s.index + (s.entries.length : Int) + 1 ≤ 1099511627776) := by
    rw [decide_eq_decide]; exact ⟨fun h => h.2, fun h => ⟨by have := h2.1; omega, h⟩⟩
  rw [e]
  simp
end
structure ChkE (s : Sv) : Prop where
  p : (s.p.r = 0 ∧ s.p.n = 0) ∨ (1 ≤ s.p.r ∧ 1 ≤ s.p.n ∧ s.p.n ≤ 5)
  i : 0 ≤ s.index ∧ s.index ≤ 1099511627776 ∧ (s.index = 0 → s.image.length = 0) ∧ s.image.length ≤ 8192
  e : entOk s.index s.entries = true
  n : s.index + s.entries.length + 1 ≤ 1099511627776
  v : vtsOk s.p (s.index + s.entries.length + 1) (s.index + s.entries.length + 1) s.votes = true
theorem chk_iff (s : Sv) : chk s = true ↔ ChkE s := by
  unfold chk
  simp only [Bool.and_eq_true, decide_eq_true_eq]
  exact ⟨fun h => ⟨h.1.1.1.1, h.1.1.1.2, h.1.1.2, h.1.2, h.2⟩, fun h => ⟨⟨⟨⟨h.p, h.i⟩, h.e⟩, h.n⟩, h.v⟩⟩
/-- An answer that is 0 or a fault. -/
def Ans (b : Bool) (e : Int) : Prop := (b = true → e = 0) ∧ (b = false → e = 21)
theorem Ans.ok {b : Bool} (h : b = true) : Ans b 0 := ⟨fun _ => rfl, (fun h2 => by rw [h] at h2; cases h2)⟩
theorem Ans.no {b : Bool} (h : b = false) : Ans b 21 := ⟨(fun h2 => by rw [h] at h2; cases h2), fun _ => rfl⟩
end Go.Proofs.YtjoeklkmnfaabaaGreat
/-
  Tables of functions; marks found; books stay good.
-/
namespace Go.Proofs.YtjoeklkmnfaabaaGreat
open Go Go.RowKit

section
variable {P : Program} {l : List Value} {w : World} {ty t t2 e : TypeId} {x y : Operand} {zs cs : List Value} {sz bytes len : Nat} {agg : Bool} {v : Value}
theorem eqIn_func_nil {p1 p2 : Array TypeId} {b : Bool} (ht : P.underlying t = some (.func p1 p2 b)) {fn : Fn} {a c : Array Value} (d : Nat) : (Op.equalIn (d + 1) t (.func fn a c) .nilFunc).run P w = .ok false w := by
  simp [Op.equalIn, run_underlying ht]
theorem ex_eql_func {p1 p2 : Array TypeId} {b : Bool} (ht : P.underlying t = some (.func p1 p2 b)) {fn : Fn} {a c : Array Value} (hx : ev l x = some (.func fn a c)) : Ex P l (.binOp .eql t x (.const .nilFunc) t2) ty w (.value (.bool false)) w := ex_eql_of hx rfl rfl rfl (eqIn_func_nil ht)
theorem eqIn_nil_nil {p1 p2 : Array TypeId} {b : Bool} (ht : P.underlying t = some (.func p1 p2 b)) (d : Nat) : (Op.equalIn (d + 1) t .nilFunc .nilFunc).run P w = .ok true w := by
  simp [Op.equalIn, run_underlying ht]
theorem ex_eql_func0 {p1 p2 : Array TypeId} {b : Bool} (ht : P.underlying t = some (.func p1 p2 b)) (hx : ev l x = some .nilFunc) : Ex P l (.binOp .eql t x (.const .nilFunc) t2) ty w (.value (.bool true)) w := ex_eql_of hx rfl rfl rfl (eqIn_nil_nil ht)
/-- A table written out. -/
theorem ex_buildA (h : TyOk P t zs sz bytes agg) (ht : P.underlying t = some (.array len e)) {ez : List Value} {es eb : Nat} {ea : Bool} (he : TyOk P e ez es eb ea) {xs : List (Nat × Operand)} {vs : List (Nat × Value)} (hv : partVals l xs = some vs) (hf : fillL (fun i => some (i * es, es)) zs vs = some cs) :
    Ex P l (.build t xs.toArray) ty w (.value (.agg cs.toArray)) w := fun _ _ _ _ => by
  have hvs : (xs.toArray.map fun (i, x) => (i, rho l x)).toList = vs := by simpa using partVals_eq hv
  have hf' := fill_of (fun i => some (i * es, es)) vs zs cs hf
  obtain ⟨i, z, d, hi, hz, hzs, _, _, hd, _⟩ := h.ex
  obtain ⟨i2, z2, d2, hi2, hz2, hzs2, hs2, _, hd2, _⟩ := he.ex
  have hzc : z.cells = zs.toArray := by rw [← hzs]
  have hb : P.built t (xs.toArray.map fun (i, x) => (i, rho l x)).toList = some cs.toArray := by
    rw [hvs]
    unfold Program.built
    rw [hi, ht]
    simp [hz, hi2, hs2, hzc, hf']
  have hr := run_build (P := P) w t _ _ hb
  simp only [execOp, Sem.run_bind]
  rw [hr]
  rfl
theorem ex_indexA1 (ht : P.underlying t = some (.array len e)) (he : TyOk P e zs 1 bytes false) {vs : List Value} {k : IntKind} {n : Int} {i : Nat} (hx : ev l x = some (.agg vs.toArray)) (hy : ev l y = some (.int k n)) (hn : n = (i : Int)) (hi : i < len) (hv : vs[i]? = some v) :
    Ex P l (.index t x y) ty w (.value v) w := fun _ _ _ _ => by
  subst hn
  have h2 : (0 : Int) ≤ (i : Int) ∧ i < len := ⟨by omega, hi⟩
  simp [execOp, rho_of hx, rho_of hy, Instr.index, asIntOf, run_underlying ht, run_sizeOf he, h2, part, run_isAgg he, hv]
end
theorem Hp.fresh {w0 w : World} {S : List Nat} {es : List Ent} (H : Hp w0 w S es) : ∀ x, w.heap.size ≤ x → x ∉ bl es := fun x hx hb => by have := bl_lt H hb; omega
/-! Marks. -/
theorem find_found {ps : List (List Value)} {l : List Mk} {c : Int} {i : Nat} {f : Bool} (h : Found ps (mkCf c) i f) (h2 : All2 MkR ps l) (hr : ∀ (i j : Nat) (a b : Mk), i < j → l[i]? = some a → l[j]? = some b → a.client < b.client) :
    (f = true → ∃ m, l[i]? = some m ∧ findMk l c = some m) ∧ (f = false → findMk l c = none) := by
  have hlo : ∀ (k : Nat) (m : Mk), k < i → l[k]? = some m → m.client < c := fun k m hk hm => by
    obtain ⟨p, hp, hR⟩ := h2.get hm
    have := h.lo k p hk hp
    rw [mkCf_eq hR] at this
    exact cmpI_lt.1 this
  refine ⟨fun hf => ?_, fun hf => ?_⟩
  · obtain ⟨p, hp, h0⟩ := h.yes hf
    obtain ⟨m, hm, hR⟩ := h2.getL hp
    rw [mkCf_eq hR] at h0
    have hc := cmpI_eq.1 h0
    refine ⟨m, hm, ?_⟩
    unfold findMk
    rw [List.find?_eq_some_iff_getElem]
    obtain ⟨hl, he⟩ := List.getElem?_eq_some_iff.1 hm
    refine ⟨by simpa using hc, i, hl, he, fun j hj => ?_⟩
    have := hlo j _ hj (List.getElem?_eq_getElem (by omega))
    simp; omega
  · unfold findMk
    rw [List.find?_eq_none]
    intro m hm
    obtain ⟨k, hk⟩ := List.getElem?_of_mem hm
    obtain ⟨p, hp, hR⟩ := h2.get hk
    rcases Nat.lt_trichotomy k i with hki | hki | hki
    · have := hlo k m hki hk
      simp; omega
    · subst hki
      have := h.no hf p hp
      rw [mkCf_eq hR] at this
      simp
      exact fun hh => this (cmpI_eq.2 hh)
    · have h3 := h.hi i
      have hil : i < l.length := by have := lt_of_get hk; omega
      obtain ⟨mi, hmi⟩ := get_of hil
      obtain ⟨pi, hpi, hRi⟩ := h2.get hmi
      have h4 := h3 pi (Nat.le_refl _) hpi
      rw [mkCf_eq hRi] at h4
      have h5 : ¬ mi.client < c := fun hh => by have := cmpI_lt.2 hh; omega
      have h6 := hr i k mi m hki hmi hk
      simp; omega
/-- A mark put where the others of its client were let go. -/
theorem putMk_del {l : List Mk} {v : Mk} {i : Nat} (hr : ∀ (i j : Nat) (a b : Mk), i < j → l[i]? = some a → l[j]? = some b → a.client < b.client)
    (hi : i ≤ (l.filter fun x => !decide (x.client = v.client)).length) (hlo : ∀ (k : Nat) (m : Mk), k < i → (l.filter fun x => !decide (x.client = v.client))[k]? = some m → m.client < v.client)
    (hhi : i = (l.filter fun x => !decide (x.client = v.client)).length ∨ ∃ m, (l.filter fun x => !decide (x.client = v.client))[i]? = some m ∧ ¬ m.client < v.client) :
    (l.filter fun x => !decide (x.client = v.client)).take i ++ v :: (l.filter fun x => !decide (x.client = v.client)).drop i = putMk l v := by
  have hp : (l.filter fun x => !decide (x.client = v.client)).Pairwise fun a b => a.client < b.client := by
    refine List.Pairwise.filter _ ?_
    rw [List.pairwise_iff_getElem]
    exact fun i j hi hj hij => hr i j _ _ hij (List.getElem?_eq_getElem hi) (List.getElem?_eq_getElem hj)
  have hr2 : ∀ (i j : Nat) (a b : Mk), i < j → (l.filter fun x => !decide (x.client = v.client))[i]? = some a → (l.filter fun x => !decide (x.client = v.client))[j]? = some b → a.client < b.client := fun i j a b hij ha hb => by
    obtain ⟨h1, rfl⟩ := List.getElem?_eq_some_iff.1 ha
    obtain ⟨h2, rfl⟩ := List.getElem?_eq_some_iff.1 hb
    exact List.pairwise_iff_getElem.1 hp i j h1 h2 hij
  have hne : ∀ x ∈ (l.filter fun x => !decide (x.client = v.client)), x.client ≠ v.client := fun x hx => by simpa using (List.mem_filter.1 hx).2
  have key := (rise_mk hr2 v.client).put (v := v) (i := i) (f := false) hi (fun k a hk ha => cmpI_lt.2 (hlo k a hk ha)) (fun k a hk ha => by
    rcases hhi with h | ⟨m, hm, h⟩
    · have := lt_of_get ha; omega
    · rcases Nat.eq_or_lt_of_le hk with rfl | h2
      · rw [hm] at ha
        simp only [Option.some.injEq] at ha
        subst ha
        have h3 : ¬ cmpI m.client v.client < 0 := fun hh => h (cmpI_lt.1 hh)
        show 0 ≤ cmpI m.client v.client
        omega
      · have h3 := hr2 i k m a h2 hm ha
        have h4 : ¬ cmpI a.client v.client < 0 := fun hh => by have := cmpI_lt.1 hh; omega
        show 0 ≤ cmpI a.client v.client
        omega) (fun h => by cases h) (fun _ a ha h0 => hne a (List.mem_of_getElem? ha) (cmpI_eq.1 h0))
  rw [if_neg (by decide)] at key
  rw [← key, putMk_eq]
  congr 1
  · rw [List.filter_filter]
    exact List.filter_congr fun x _ => by
      by_cases h : cmpI x.client v.client < 0
      · have := cmpI_lt.1 h
        simp [h]; omega
      · simp [h]
  · congr 1
    rw [List.filter_filter]
    exact List.filter_congr fun x _ => by
      by_cases h : 0 < cmpI x.client v.client
      · have := cmpI_gt.1 h
        simp [h]; omega
      · simp [h]
theorem mkIs_neq {p : List Value} {x : Mk} {c : Int} (h : MkR p x) : (!mkIs c p) = !decide (x.client = c) := by rw [mkIs_eq h]
theorem spend_no {l : List Mk} {c q : Int} (h : c < 1 ∨ 8 < c ∨ q < 1 ∨ 4611686018427387904 < q) : spend l c q = l := by unfold spend; rw [if_pos h]
theorem spend_has {l : List Mk} {c q : Int} {m : Mk} (hf : findMk l c = some m) (h : q ≤ m.seq) : spend l c q = l := by
  unfold spend
  split
  · rfl
  · rw [hf]; simp [h]
theorem spend_more {l : List Mk} {c q : Int} {m : Mk} (h0 : ¬ (c < 1 ∨ 8 < c ∨ q < 1 ∨ 4611686018427387904 < q)) (hf : findMk l c = some m) (h : ¬ q ≤ m.seq) : spend l c q = putMk l ⟨c, q⟩ := by
  unfold spend
  rw [if_neg h0, hf]; simp [h]
theorem spend_new {l : List Mk} {c q : Int} (h0 : ¬ (c < 1 ∨ 8 < c ∨ q < 1 ∨ 4611686018427387904 < q)) (hf : findMk l c = none) : spend l c q = putMk l ⟨c, q⟩ := by
  unfold spend
  rw [if_neg h0, hf]
/-! What stays so. -/
theorem mksOk_of : ∀ {l : List Mk} {n : Int}, (∀ x ∈ l, n < x.client ∧ x.client ≤ 8 ∧ 1 ≤ x.seq ∧ x.seq ≤ 4611686018427387904) → l.Pairwise (fun a b => a.client < b.client) → mksOk n l
  | [], _, _, _ => trivial
  | m :: l, n, h, hp => by
    obtain ⟨h1, h2⟩ := List.pairwise_cons.1 hp
    obtain ⟨a, b, c, d⟩ := h m (by simp)
    exact ⟨a, b, c, d, mksOk_of (fun x hx => ⟨h1 x hx, (h x (List.mem_cons_of_mem _ hx)).2⟩) h2⟩
theorem mks_pair {l : List Mk} {n : Int} (h : mksOk n l) : l.Pairwise (fun a b => a.client < b.client) := by
  rw [List.pairwise_iff_getElem]
  exact fun i j hi hj hij => (mks_rise h).2 i j _ _ hij (List.getElem?_eq_getElem hi) (List.getElem?_eq_getElem hj)
theorem pair_put {X : Type} {R : X → X → Prop} {l : List X} {v : X} {f g : X → Bool} (hp : l.Pairwise R) (hf : ∀ x ∈ l, f x = true → R x v) (hg : ∀ x ∈ l, g x = true → R v x) (hfg : ∀ a ∈ l, ∀ b ∈ l, f a = true → g b = true → R a b) : (l.filter f ++ v :: l.filter g).Pairwise R := by
  rw [List.pairwise_append, List.pairwise_cons]
  refine ⟨hp.filter f, ⟨fun a ha => hg a (List.mem_filter.1 ha).1 (List.mem_filter.1 ha).2, hp.filter g⟩, fun a ha b hb => ?_⟩
  rcases List.mem_cons.1 hb with rfl | hb
  · exact hf a (List.mem_filter.1 ha).1 (List.mem_filter.1 ha).2
  · exact hfg a (List.mem_filter.1 ha).1 b (List.mem_filter.1 hb).1 (List.mem_filter.1 ha).2 (List.mem_filter.1 hb).2
theorem mks_put {l : List Mk} {m : Mk} (h : mksOk 0 l) (h1 : 1 ≤ m.client ∧ m.client ≤ 8) (h2 : 1 ≤ m.seq ∧ m.seq ≤ 4611686018427387904) : mksOk 0 (putMk l m) := by
  have ha := (mks_rise h).1
  refine mksOk_of (fun x hx => ?_) ?_
  · unfold putMk at hx
    rcases List.mem_append.1 hx with hx | hx
    · exact ha x (List.mem_filter.1 hx).1
    · rcases List.mem_cons.1 hx with rfl | hx
      · exact ⟨by omega, h1.2, h2⟩
      · exact ha x (List.mem_filter.1 hx).1
  · refine pair_put (mks_pair h) (fun x _ hx => by simpa using hx) (fun x _ hx => by simpa using hx) (fun a _ b _ h1 h2 => ?_)
    simp only [decide_eq_true_eq] at h1 h2
    omega
theorem spend_ok {l : List Mk} {c q : Int} (h : mksOk 0 l) : mksOk 0 (spend l c q) := by
  unfold spend
  split
  · exact h
  · rename_i hc
    split
    · split
      · exact h
      · exact mks_put h ⟨by show 1 ≤ c; omega, by show c ≤ 8; omega⟩ ⟨by show 1 ≤ q; omega, by show q ≤ _; omega⟩
    · exact mks_put h ⟨by show 1 ≤ c; omega, by show c ≤ 8; omega⟩ ⟨by show 1 ≤ q; omega, by show q ≤ _; omega⟩
theorem rtsOk_of : ∀ {l : List Rt}, (∀ x ∈ l, mayR x) → l.Pairwise (fun a b => ltR a b = true) → rtsOk l
  | [], _, _ => trivial
  | m :: l, h, hp => by
    obtain ⟨h1, h2⟩ := List.pairwise_cons.1 hp
    exact ⟨h m (by simp), h1, rtsOk_of (fun x hx => h x (List.mem_cons_of_mem _ hx)) h2⟩
theorem rts_pair {l : List Rt} (h : rtsOk l) : l.Pairwise (fun a b => ltR a b = true) := by
  rw [List.pairwise_iff_getElem]
  exact fun i j hi hj hij => (rts_rise h).2 i j _ _ hij (List.getElem?_eq_getElem hi) (List.getElem?_eq_getElem hj)
theorem rts_put {l : List Rt} {r : Rt} (h : rtsOk l) (hr : mayR r) : rtsOk (putRt l r) := by
  have ha := (rts_rise h).1
  refine rtsOk_of (fun x hx => ?_) ?_
  · unfold putRt at hx
    rcases List.mem_append.1 hx with hx | hx
    · exact ha x (List.mem_filter.1 hx).1
    · rcases List.mem_cons.1 hx with rfl | hx
      · exact hr
      · exact ha x (List.mem_filter.1 hx).1
  · exact pair_put (rts_pair h) (fun x _ hx => hx) (fun x _ hx => hx) (fun a _ b _ h1 h2 => ltR_trans h1 h2)
theorem putRt_len (l : List Rt) (r : Rt) : (putRt l r).length ≤ l.length + 1 := by
  have key : ∀ l : List Rt, (l.filter fun x => ltR x r).length + (l.filter fun x => ltR r x).length ≤ l.length := by
    intro l
    induction l with
    | nil => simp
    | cons a l ih =>
      rw [List.filter_cons, List.filter_cons]
      have : ¬ (ltR a r = true ∧ ltR r a = true) := fun h => by
        have h2 := ltR_trans h.1 h.2
        rw [ltR_irr] at h2; cases h2
      by_cases h1 : ltR a r = true <;> by_cases h2 : ltR r a = true <;> simp [h1, h2] <;> first | omega | exact absurd ⟨h1, h2⟩ this
  unfold putRt
  rw [List.length_append, List.length_cons]
  have := key l
  omega
theorem Good.into {b b' : Bo} {N : Nat} {n : Nt} (h : Good b N) (hi : b.into n = some b') : Good b' (N + 1) := by
  unfold Bo.into at hi
  split at hi
  · split at hi
    · rename_i hm
      simp only [Option.some.injEq] at hi
      subst hi
      exact ⟨h.eight, h.chk, rts_put h.rts hm, spend_ok h.mks, Nat.le_trans (putRt_len _ _) (by have := h.few; omega)⟩
    · cases hi
  · split at hi
    · cases hi
    · split at hi
      · split at hi
        · rename_i hc
          simp only [Option.some.injEq] at hi
          subst hi
          refine ⟨by rw [List.length_set]; exact h.eight, fun s hs => ?_, h.rts, h.mks, by have := h.few; show b.rights.length ≤ N + 1; omega⟩
          rcases List.mem_or_eq_of_mem_set hs with hs | rfl
          · exact h.chk s hs
          · exact hc
        · cases hi
      · cases hi
theorem Good.empty : Good Bo.empty 0 := ⟨rfl, fun s hs => by rw [(List.mem_replicate.1 hs).2]; rfl, trivial, trivial, Nat.le_refl _⟩
theorem Good.more {b : Bo} {N M : Nat} (h : Good b N) (hm : N ≤ M) : Good b M := { h with few := Nat.le_trans h.few hm }
theorem mks_len {l : List Mk} (h : mksOk 0 l) : l.length ≤ 8 := by
  have key : ∀ (l : List Mk) (n : Int), mksOk n l → 0 ≤ n → n ≤ 8 → (l.length : Int) ≤ 8 - n := by
    intro l
    induction l with
    | nil => intro n _ _ h; simp; omega
    | cons m l ih =>
      intro n h h0 h8
      have := ih m.client h.2.2.2.2 (by have := h.1; omega) h.2.1
      have := h.1
      rw [List.length_cons]; omega
  have := key l 0 h (by omega) (by omega)
  omega
end Go.Proofs.YtjoeklkmnfaabaaGreat
/-
  Plain laws: what a note does, kind by kind.
-/
namespace Go.Proofs.YtjoeklkmnfaabaaGreat
open Go Go.RowKit

theorem goes1 {s : Sv} {n : Nt} (h : n.kind = 1) : s.goes n = s.raise n.b := by unfold Sv.goes; rw [if_pos h]
theorem goes2 {s : Sv} {n : Nt} (h : n.kind = 2) : s.goes n = if n.vote.slot ≤ s.last then s else ({ s with votes := putVt s.votes n.vote } : Sv).raise n.vote.b := by unfold Sv.goes; rw [if_neg (by omega), if_pos h]
theorem goes3 {s : Sv} {n : Nt} (h : n.kind = 3) : s.goes n = if n.entry.slot = s.last + 1 then { s with entries := s.entries ++ [n.entry], votes := behind s.votes n.entry.slot } else s := by unfold Sv.goes; rw [if_neg (by omega), if_neg (by omega), if_pos h]
theorem goes4 {s : Sv} {n : Nt} (h : n.kind = 4) : s.goes n = if n.entry.slot ≤ s.index then s else { s with index := n.entry.slot, image := n.entry.val, entries := imgEn s.entries n.entry.slot, votes := behind s.votes n.entry.slot } := by unfold Sv.goes; rw [if_neg (by omega), if_neg (by omega), if_neg (by omega)]
theorem putVt_len (l : List Vt) (v : Vt) : (putVt l v).length ≤ l.length + 1 := by
  have key : ∀ l : List Vt, (l.filter fun x => decide (x.slot < v.slot)).length + (l.filter fun x => decide (v.slot < x.slot)).length ≤ l.length := by
    intro l
    induction l with
    | nil => simp
    | cons a l ih =>
      rw [List.filter_cons, List.filter_cons]
      by_cases h1 : a.slot < v.slot <;> by_cases h2 : v.slot < a.slot <;> simp [h1, h2] <;> omega
  unfold putVt
  rw [List.length_append, List.length_cons]
  have := key l
  omega
theorem raise_same (s : Sv) (b : Bal) : (s.raise b).votes = s.votes ∧ (s.raise b).entries = s.entries := by rw [raise_eq]; exact ⟨rfl, rfl⟩
theorem imgEn_len (l : List En) (n : Int) : (imgEn l n).length ≤ l.length := by
  have h := List.length_filter_le (fun x : En => decide (n < x.slot)) l
  unfold imgEn
  split
  · simp
  · rename_i e r heq
    rw [heq] at h
    split
    · exact h
    · simp
theorem goes_len (s : Sv) (n : Nt) : (s.goes n).votes.length ≤ s.votes.length + 1 ∧ (s.goes n).entries.length ≤ s.entries.length + 1 := by
  have hb : (behind s.votes n.entry.slot).length ≤ s.votes.length := List.length_filter_le _ _
  have hp := putVt_len s.votes n.vote
  have hi := imgEn_len s.entries n.entry.slot
  unfold Sv.goes
  split
  · obtain ⟨h1, h2⟩ := raise_same s n.b
    rw [h1, h2]; omega
  · split
    · split
      · omega
      · obtain ⟨h1, h2⟩ := raise_same ({ s with votes := putVt s.votes n.vote } : Sv) n.vote.b
        rw [h1, h2]; exact ⟨hp, by show s.entries.length ≤ _; omega⟩
    · split
      · split
        · simp only [List.length_append, List.length_singleton]; omega
        · omega
      · split
        · omega
        · exact ⟨by show (behind s.votes n.entry.slot).length ≤ _; omega, by show (imgEn s.entries n.entry.slot).length ≤ _; omega⟩
theorem into_bad {b : Bo} {n : Nt} (h5 : n.kind ≠ 5) (h : n.kind < 1 ∨ 4 < n.kind ∨ n.group < 0 ∨ 8 ≤ n.group) : b.into n = none := by unfold Bo.into; rw [if_neg h5, if_pos h]
theorem into_no {b : Bo} {n : Nt} {s : Sv} (h5 : n.kind ≠ 5) (hs : b.groups[n.group.toNat]? = some s) (hc : chk (s.goes n) = false) : b.into n = none := by
  unfold Bo.into
  rw [if_neg h5, hs]
  split
  · rfl
  · simp [hc]
theorem into_yes {b : Bo} {n : Nt} {s : Sv} (h5 : n.kind ≠ 5) (h : ¬ (n.kind < 1 ∨ 4 < n.kind ∨ n.group < 0 ∨ 8 ≤ n.group)) (hs : b.groups[n.group.toNat]? = some s) (hc : chk (s.goes n) = true) : b.into n = some { b with groups := b.groups.set n.group.toNat (s.goes n) } := by
  unfold Bo.into
  rw [if_neg h5, if_neg h, hs]
  simp [hc]
theorem into_right {b : Bo} {n : Nt} (h5 : n.kind = 5) (h : mayR n.right) : b.into n = some { b with rights := putRt b.rights n.right, last := spend b.last n.client n.seq } := by unfold Bo.into; rw [if_pos h5, if_pos h]
theorem into_wrong {b : Bo} {n : Nt} (h5 : n.kind = 5) (h : ¬ mayR n.right) : b.into n = none := by unfold Bo.into; rw [if_pos h5, if_neg h]
theorem vts_few {s : Sv} (h : ChkE s) : s.votes.length ≤ 16 := by
  have := vts_len h.v (by omega)
  omega
theorem ents_few {s : Sv} (h : ChkE s) : s.entries.length ≤ 1099511627776 := by
  have h1 := h.n
  have h2 := h.i.1
  omega
theorem repl_snoc {b : Bo} : ∀ {l : List Nt} {n : Nt}, repl b (l ++ [n]) = (repl b l).bind fun b' => b'.into n
  | [], n => by
    show (match b.into n with | some b' => repl b' [] | none => none) = b.into n
    cases b.into n <;> rfl
  | m :: l, n => by
    show (match b.into m with | some b' => repl b' (l ++ [n]) | none => none) = (match b.into m with | some b' => repl b' l | none => none).bind fun b' => b'.into n
    cases h : b.into m with
    | none => rfl
    | some b' => exact repl_snoc (b := b') (l := l)
theorem repl_take {b b' : Bo} {l : List Nt} {n : Nt} {i : Nat} (h : repl b (l.take i) = some b') (hn : l[i]? = some n) : repl b (l.take (i + 1)) = b'.into n := by
  rw [take_snoc hn, repl_snoc, h]; rfl
theorem repl_none {b : Bo} {l : List Nt} {i : Nat} (h : repl b (l.take i) = none) : repl b l = none := by
  rw [← List.take_append_drop i l]
  generalize l.take i = x at h
  generalize l.drop i = y
  induction x generalizing b with
  | nil => cases h
  | cons m x ih =>
    show (match b.into m with | some b' => repl b' (x ++ y) | none => none) = none
    change (match b.into m with | some b' => repl b' x | none => none) = none at h
    cases hm : b.into m with
    | none => rfl
    | some b' => rw [hm] at h; exact ih h
/-- No book at all; what Replay answers. -/
def Bo.zero : Bo := ⟨[], [], []⟩
def Rep (l : List Nt) (b : Bo) (e : Int) : Prop := (repl Bo.empty l = some b ∧ e = 0 ∧ Good b l.length) ∨ (repl Bo.empty l = none ∧ b = Bo.zero ∧ e = 21)
theorem BoR.zero (w : World) (ok : Nat → Prop) : BoR w ok [.slice none 0 0, .slice none 0 0, .slice none 0 0] Bo.zero := ⟨none, 0, none, 0, none, 0, rfl, Sl.none _ _ _ _, Sl.none _ _ _ _, Sl.none _ _ _ _⟩
theorem Good.fews {b : Bo} {N : Nat} (h : Good b N) : ∀ x ∈ b.groups, x.votes.length ≤ 1000000000000000000 ∧ x.entries.length ≤ 1000000000000000000 := fun x hx => by
  have hc := (chk_iff x).1 (h.chk x hx)
  have h1 := vts_few hc
  have h2 := ents_few hc
  exact ⟨by omega, by omega⟩
end Go.Proofs.YtjoeklkmnfaabaaGreat
/- Walks of layer 2, printed by wip/gen/codec.py. -/
namespace Go.Proofs.YtjoeklkmnfaabaaGreat
open Go Go.RowKit
set_option linter.unusedVariables false
attribute [local irreducible] Still Ops Does Cd
set_option maxRecDepth 100000 in
set_option maxHeartbeats 4000000 in
theorem cloneV (A : Option Addr) (n c : Nat) (cs : List Value) (w0 : World) (hr : Rd w0 A n 4 cs) (ho : cs.all (·.oneCell') = true) (hb : n * 48 ≤ 211106232532992) :
    Does Tryz.prog 87 #[.slice A n c] w0 (fun r w' => Rw w0 w' r 77 4 n cs) := by
  refine does_of Tryz.func87 Tryz.ntmps87 rfl ?_
  change Run _ _ _ _ [.slice A n c, undef, undef, undef, undef, undef, undef, undef] _
  have H := Hp.refl w0
  refine run_seq ?_
  refine run_region ?_
  refine ops_val (ex_assign rfl) ?_
  refine ops_nil ?_
  change Run _ _ _ _ [_, _, _, _, _, _, _, _] _
  refine run_seq ?_
  refine run_seq ?_
  refine run_region ?_
  refine ops_val (ex_move rfl) ?_
  refine ops_test (ex_eql_nil_slice Tryz.underlying94 rfl) (fun hp4 => ?_) (fun hp4 => ?_)
  · skip
    refine ops_nil ?_
    change Run _ _ _ _ [_, _, _, _, _, _, _, _] _
    refine run_cond_true rfl ?_
    refine run_seq ?_
    refine run_region ?_
    refine ops_val (ex_assign rfl) ?_
    refine ops_nil ?_
    change Run _ _ _ _ [_, _, _, _, _, _, _, _] _
    refine run_ret ?_
    refine fin_ret1 rfl rfl ?_
    have hn0 : n = 0 := hr.nil hp4
    subst hn0
    have hb : cs = [] := List.eq_nil_of_length_eq_zero (by rw [hr.len, Nat.zero_mul])
    subst hb
    exact ⟨none, 0, [], rfl, Nat.le_refl _, by simp, fun _ => rfl, by have := H.nil 77; exact this⟩
  · skip
    refine ops_nil ?_
    change Run _ _ _ _ [_, _, _, _, _, _, _, _] _
    refine run_cond_false rfl ?_
    refine run_skip ?_
    refine run_seq ?_
    refine run_region ?_
    refine ops_buildSlice Tryz.underlying94 ty77 H rfl (by decide) rfl ?_
    intro w1 g1 H1 hg1
    refine ops_val (ex_move rfl) ?_
    refine ops_append Tryz.underlying94 ty77 (by decide) H1 0 (g := some g1) (xs := []) (sp := []) rfl rfl rfl (by decide) (by decide) (by simp) rfl (hr.to0 H1) ho (by omega) (by omega) (by decide) ?_
    intro w2 g3 cap3 sp3 H2 hcap3 hmc3 hg3
    refine ops_val (ex_assign rfl) ?_
    refine ops_nil ?_
    change Run _ _ _ _ [_, _, _, _, _, _, _, _] _
    refine run_ret ?_
    refine fin_ret1 rfl rfl ?_
    rw [Nat.zero_add] at hmc3
    refine ⟨g3, cap3, sp3, ?_, hmc3, hcap3, hg3, H2.pick [0] (by decide)⟩
    rw [Nat.zero_add]
set_option maxRecDepth 100000 in
set_option maxHeartbeats 4000000 in
theorem cloneE (A : Option Addr) (n c : Nat) (cs : List Value) (w0 : World) (hr : Rd w0 A n 2 cs) (ho : cs.all (·.oneCell') = true) (hb : n * 32 ≤ 211106232532992) :
    Does Tryz.prog 88 #[.slice A n c] w0 (fun r w' => Rw w0 w' r 79 2 n cs) := by
  refine does_of Tryz.func88 Tryz.ntmps88 rfl ?_
  change Run _ _ _ _ [.slice A n c, undef, undef, undef, undef, undef, undef, undef] _
  have H := Hp.refl w0
  refine run_seq ?_
  refine run_region ?_
  refine ops_val (ex_assign rfl) ?_
  refine ops_nil ?_
  change Run _ _ _ _ [_, _, _, _, _, _, _, _] _
  refine run_seq ?_
  refine run_seq ?_
  refine run_region ?_
  refine ops_val (ex_move rfl) ?_
  refine ops_test (ex_eql_nil_slice Tryz.underlying95 rfl) (fun hp4 => ?_) (fun hp4 => ?_)
  · skip
    refine ops_nil ?_
    change Run _ _ _ _ [_, _, _, _, _, _, _, _] _
    refine run_cond_true rfl ?_
    refine run_seq ?_
    refine run_region ?_
    refine ops_val (ex_assign rfl) ?_
    refine ops_nil ?_
    change Run _ _ _ _ [_, _, _, _, _, _, _, _] _
    refine run_ret ?_
    refine fin_ret1 rfl rfl ?_
    have hn0 : n = 0 := hr.nil hp4
    subst hn0
    have hb : cs = [] := List.eq_nil_of_length_eq_zero (by rw [hr.len, Nat.zero_mul])
    subst hb
    exact ⟨none, 0, [], rfl, Nat.le_refl _, by simp, fun _ => rfl, by have := H.nil 79; exact this⟩
  · skip
    refine ops_nil ?_
    change Run _ _ _ _ [_, _, _, _, _, _, _, _] _
    refine run_cond_false rfl ?_
    refine run_skip ?_
    refine run_seq ?_
    refine run_region ?_
    refine ops_buildSlice Tryz.underlying95 ty79 H rfl (by decide) rfl ?_
    intro w1 g1 H1 hg1
    refine ops_val (ex_move rfl) ?_
    refine ops_append Tryz.underlying95 ty79 (by decide) H1 0 (g := some g1) (xs := []) (sp := []) rfl rfl rfl (by decide) (by decide) (by simp) rfl (hr.to0 H1) ho (by omega) (by omega) (by decide) ?_
    intro w2 g3 cap3 sp3 H2 hcap3 hmc3 hg3
    refine ops_val (ex_assign rfl) ?_
    refine ops_nil ?_
    change Run _ _ _ _ [_, _, _, _, _, _, _, _] _
    refine run_ret ?_
    refine fin_ret1 rfl rfl ?_
    rw [Nat.zero_add] at hmc3
    refine ⟨g3, cap3, sp3, ?_, hmc3, hcap3, hg3, H2.pick [0] (by decide)⟩
    rw [Nat.zero_add]
set_option maxRecDepth 100000 in
set_option maxHeartbeats 4000000 in
theorem cloneR (A : Option Addr) (n c : Nat) (cs : List Value) (w0 : World) (hr : Rd w0 A n 4 cs) (ho : cs.all (·.oneCell') = true) (hb : n * 40 ≤ 211106232532992) :
    Does Tryz.prog 38 #[.slice A n c] w0 (fun r w' => Rw w0 w' r 35 4 n cs) := by
  refine does_of Tryz.func38 Tryz.ntmps38 rfl ?_
  change Run _ _ _ _ [.slice A n c, undef, undef, undef, undef, undef, undef, undef] _
  have H := Hp.refl w0
  refine run_seq ?_
  refine run_region ?_
  refine ops_val (ex_assign rfl) ?_
  refine ops_nil ?_
  change Run _ _ _ _ [_, _, _, _, _, _, _, _] _
  refine run_seq ?_
  refine run_seq ?_
  refine run_region ?_
  refine ops_val (ex_move rfl) ?_
  refine ops_test (ex_eql_nil_slice Tryz.underlying38 rfl) (fun hp4 => ?_) (fun hp4 => ?_)
  · skip
    refine ops_nil ?_
    change Run _ _ _ _ [_, _, _, _, _, _, _, _] _
    refine run_cond_true rfl ?_
    refine run_seq ?_
    refine run_region ?_
    refine ops_val (ex_assign rfl) ?_
    refine ops_nil ?_
    change Run _ _ _ _ [_, _, _, _, _, _, _, _] _
    refine run_ret ?_
    refine fin_ret1 rfl rfl ?_
    have hn0 : n = 0 := hr.nil hp4
    subst hn0
    have hb : cs = [] := List.eq_nil_of_length_eq_zero (by rw [hr.len, Nat.zero_mul])
    subst hb
    exact ⟨none, 0, [], rfl, Nat.le_refl _, by simp, fun _ => rfl, by have := H.nil 35; exact this⟩
  · skip
    refine ops_nil ?_
    change Run _ _ _ _ [_, _, _, _, _, _, _, _] _
    refine run_cond_false rfl ?_
    refine run_skip ?_
    refine run_seq ?_
    refine run_region ?_
    refine ops_buildSlice Tryz.underlying38 ty35 H rfl (by decide) rfl ?_
    intro w1 g1 H1 hg1
    refine ops_val (ex_move rfl) ?_
    refine ops_append Tryz.underlying38 ty35 (by decide) H1 0 (g := some g1) (xs := []) (sp := []) rfl rfl rfl (by decide) (by decide) (by simp) rfl (hr.to0 H1) ho (by omega) (by omega) (by decide) ?_
    intro w2 g3 cap3 sp3 H2 hcap3 hmc3 hg3
    refine ops_val (ex_assign rfl) ?_
    refine ops_nil ?_
    change Run _ _ _ _ [_, _, _, _, _, _, _, _] _
    refine run_ret ?_
    refine fin_ret1 rfl rfl ?_
    rw [Nat.zero_add] at hmc3
    refine ⟨g3, cap3, sp3, ?_, hmc3, hcap3, hg3, H2.pick [0] (by decide)⟩
    rw [Nat.zero_add]
set_option maxRecDepth 100000 in
set_option maxHeartbeats 4000000 in
theorem cloneM (A : Option Addr) (n c : Nat) (cs : List Value) (w0 : World) (hr : Rd w0 A n 7 cs) (ho : cs.all (·.oneCell') = true) (hb : n * 56 ≤ 211106232532992) :
    Does Tryz.prog 89 #[.slice A n c] w0 (fun r w' => Rw w0 w' r 110 7 n cs) := by
  refine does_of Tryz.func89 Tryz.ntmps89 rfl ?_
  change Run _ _ _ _ [.slice A n c, undef, undef, undef, undef, undef, undef, undef] _
  have H := Hp.refl w0
  refine run_seq ?_
  refine run_region ?_
  refine ops_val (ex_assign rfl) ?_
  refine ops_nil ?_
  change Run _ _ _ _ [_, _, _, _, _, _, _, _] _
  refine run_seq ?_
  refine run_seq ?_
  refine run_region ?_
  refine ops_val (ex_move rfl) ?_
  refine ops_test (ex_eql_nil_slice Tryz.underlying39 rfl) (fun hp4 => ?_) (fun hp4 => ?_)
  · skip
    refine ops_nil ?_
    change Run _ _ _ _ [_, _, _, _, _, _, _, _] _
    refine run_cond_true rfl ?_
    refine run_seq ?_
    refine run_region ?_
    refine ops_val (ex_assign rfl) ?_
    refine ops_nil ?_
    change Run _ _ _ _ [_, _, _, _, _, _, _, _] _
    refine run_ret ?_
    refine fin_ret1 rfl rfl ?_
    have hn0 : n = 0 := hr.nil hp4
    subst hn0
    have hb : cs = [] := List.eq_nil_of_length_eq_zero (by rw [hr.len, Nat.zero_mul])
    subst hb
    exact ⟨none, 0, [], rfl, Nat.le_refl _, by simp, fun _ => rfl, by have := H.nil 110; exact this⟩
  · skip
    refine ops_nil ?_
    change Run _ _ _ _ [_, _, _, _, _, _, _, _] _
    refine run_cond_false rfl ?_
    refine run_skip ?_
    refine run_seq ?_
    refine run_region ?_
    refine ops_buildSlice Tryz.underlying39 ty110 H rfl (by decide) rfl ?_
    intro w1 g1 H1 hg1
    refine ops_val (ex_move rfl) ?_
    refine ops_append Tryz.underlying39 ty110 (by decide) H1 0 (g := some g1) (xs := []) (sp := []) rfl rfl rfl (by decide) (by decide) (by simp) rfl (hr.to0 H1) ho (by omega) (by omega) (by decide) ?_
    intro w2 g3 cap3 sp3 H2 hcap3 hmc3 hg3
    refine ops_val (ex_assign rfl) ?_
    refine ops_nil ?_
    change Run _ _ _ _ [_, _, _, _, _, _, _, _] _
    refine run_ret ?_
    refine fin_ret1 rfl rfl ?_
    rw [Nat.zero_add] at hmc3
    refine ⟨g3, cap3, sp3, ?_, hmc3, hcap3, hg3, H2.pick [0] (by decide)⟩
    rw [Nat.zero_add]
set_option maxRecDepth 100000 in
set_option maxHeartbeats 4000000 in
theorem cloneS (A : Option Addr) (n c : Nat) (cs : List Value) (w0 : World) (hr : Rd w0 A n 6 cs) (ho : cs.all (·.oneCell') = true) (hb : n * 96 ≤ 211106232532992) :
    Does Tryz.prog 69 #[.slice A n c] w0 (fun r w' => Rw w0 w' r 97 6 n cs) := by
  refine does_of Tryz.func69 Tryz.ntmps69 rfl ?_
  change Run _ _ _ _ [.slice A n c, undef, undef, undef, undef, undef, undef, undef] _
  have H := Hp.refl w0
  refine run_seq ?_
  refine run_region ?_
  refine ops_val (ex_assign rfl) ?_
  refine ops_nil ?_
  change Run _ _ _ _ [_, _, _, _, _, _, _, _] _
  refine run_seq ?_
  refine run_seq ?_
  refine run_region ?_
  refine ops_val (ex_move rfl) ?_
  refine ops_test (ex_eql_nil_slice Tryz.underlying37 rfl) (fun hp4 => ?_) (fun hp4 => ?_)
  · skip
    refine ops_nil ?_
    change Run _ _ _ _ [_, _, _, _, _, _, _, _] _
    refine run_cond_true rfl ?_
    refine run_seq ?_
    refine run_region ?_
    refine ops_val (ex_assign rfl) ?_
    refine ops_nil ?_
    change Run _ _ _ _ [_, _, _, _, _, _, _, _] _
    refine run_ret ?_
    refine fin_ret1 rfl rfl ?_
    have hn0 : n = 0 := hr.nil hp4
    subst hn0
    have hb : cs = [] := List.eq_nil_of_length_eq_zero (by rw [hr.len, Nat.zero_mul])
    subst hb
    exact ⟨none, 0, [], rfl, Nat.le_refl _, by simp, fun _ => rfl, by have := H.nil 97; exact this⟩
  · skip
    refine ops_nil ?_
    change Run _ _ _ _ [_, _, _, _, _, _, _, _] _
    refine run_cond_false rfl ?_
    refine run_skip ?_
    refine run_seq ?_
    refine run_region ?_
    refine ops_buildSlice Tryz.underlying37 ty97 H rfl (by decide) rfl ?_
    intro w1 g1 H1 hg1
    refine ops_val (ex_move rfl) ?_
    refine ops_append Tryz.underlying37 ty97 (by decide) H1 0 (g := some g1) (xs := []) (sp := []) rfl rfl rfl (by decide) (by decide) (by simp) rfl (hr.to0 H1) ho (by omega) (by omega) (by decide) ?_
    intro w2 g3 cap3 sp3 H2 hcap3 hmc3 hg3
    refine ops_val (ex_assign rfl) ?_
    refine ops_nil ?_
    change Run _ _ _ _ [_, _, _, _, _, _, _, _] _
    refine run_ret ?_
    refine fin_ret1 rfl rfl ?_
    rw [Nat.zero_add] at hmc3
    refine ⟨g3, cap3, sp3, ?_, hmc3, hcap3, hg3, H2.pick [0] (by decide)⟩
    rw [Nat.zero_add]
end Go.Proofs.YtjoeklkmnfaabaaGreat
