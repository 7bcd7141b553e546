/-
  The groundwork of this seat's walks: code is walked by one law an operation, over a frame that is a list; memory is told as a list of rows that the call knows.
-/
import Derived.Test.YtbninklfoogmdaaRows
import Derived.WalkKit
import Derived.Deep.LoopGhost
import Derived.Deep.WholeRow
import Derived.StillTail
namespace Go.Proofs.Ytbninklfoogmdaa
open Go Go.RowKit

/-! ### Frames -/
def nth : List Value → Nat → Option Value
  | [], _ => none
  | a :: _, 0 => some a
  | _ :: l, n + 1 => nth l n
theorem nth_eq : ∀ (l : List Value) (n : Nat), nth l n = l[n]?
  | [], n => by simp [nth]
  | _ :: _, 0 => by simp [nth]
  | _ :: l, n + 1 => by simpa [nth] using nth_eq l n
def ev (l : List Value) : Operand → Option Value
  | .tmp t => nth l t
  | .const v => some v
  | .global g => some (.pointer (some ⟨g, 0, none⟩))
  | .func f => some (.func (.func f) #[] #[])
def evs (l : List Value) : List Operand → Option (List Value)
  | [] => some []
  | x :: xs => match ev l x, evs l xs with
    | some v, some vs => some (v :: vs)
    | _, _ => none
/-- A frame's reading, whatever is deferred. -/
def rho (l : List Value) : Operand → Value := Act.eval ⟨l.toArray, []⟩
theorem rho_eq (l : List Value) (ds : List Deferred) : Act.eval ⟨l.toArray, ds⟩ = rho l := by
  funext x; cases x <;> rfl
theorem rho_of {l : List Value} {x : Operand} {v : Value} (h : ev l x = some v) : rho l x = v := by
  cases x with
  | tmp t =>
    simp only [ev, nth_eq] at h
    simp [rho, Act.eval, h]
  | const c => simpa [ev, rho, Act.eval] using h
  | global g => simpa [ev, rho, Act.eval] using h
  | func f => simpa [ev, rho, Act.eval] using h
theorem rhos_of {l : List Value} : ∀ {xs : List Operand} {vs : List Value}, evs l xs = some vs → xs.map (rho l) = vs
  | [], vs, h => by simp [evs] at h; simp [h]
  | x :: xs, vs, h => by
    simp only [evs] at h
    cases hx : ev l x with
    | none => rw [hx] at h; simp at h
    | some v =>
      cases hxs : evs l xs with
      | none => rw [hx, hxs] at h; simp at h
      | some us =>
        rw [hx, hxs] at h
        simp only [Option.some.injEq] at h
        subst h
        simp [rho_of hx, rhos_of hxs]

/-- A frame, some of whose slots are told. -/
def Fits : List (Option Value) → List Value → Prop
  | [], l => l = []
  | some v :: ps, l => ∃ l', l = v :: l' ∧ Fits ps l'
  | none :: ps, l => ∃ x l', l = x :: l' ∧ Fits ps l'
theorem f0 : Fits [] [] := rfl
theorem fs {v : Value} {ps : List (Option Value)} {l : List Value} (h : Fits ps l) : Fits (some v :: ps) (v :: l) := ⟨l, rfl, h⟩
theorem fn {x : Value} {ps : List (Option Value)} {l : List Value} (h : Fits ps l) : Fits (none :: ps) (x :: l) := ⟨x, l, rfl, h⟩
def told (j : Nat → Value) : List (Option Value) → Nat → List Value
  | [], _ => []
  | some v :: ps, k => v :: told j ps (k + 1)
  | none :: ps, k => j k :: told j ps (k + 1)
theorem Fits.told_ : ∀ {ps : List (Option Value)} {l : List Value} (k : Nat), Fits ps l → ∃ j, l = told j ps k
  | [], l, k, h => ⟨fun _ => undef, h⟩
  | some v :: ps, l, k, h => by
    obtain ⟨l', rfl, h'⟩ := h
    obtain ⟨j, rfl⟩ := Fits.told_ (k + 1) h'
    exact ⟨j, rfl⟩
  | none :: ps, l, k, h => by
    obtain ⟨x, l', rfl, h'⟩ := h
    obtain ⟨j, rfl⟩ := Fits.told_ (k + 1) h'
    have key : ∀ (qs : List (Option Value)) (m : Nat), k < m → told (fun i => if i = k then x else j i) qs m = told j qs m := by
      intro qs
      induction qs with
      | nil => intro m _; rfl
      | cons q qs ih =>
        intro m hm
        cases q with
        | none => simp only [told]; rw [if_neg (by omega), ih (m + 1) (by omega)]
        | some v => simp only [told]; rw [ih (m + 1) (by omega)]
    refine ⟨fun i => if i = k then x else j i, ?_⟩
    simp only [told, if_true]
    rw [key ps (k + 1) (by omega)]
theorem Fits.open {ps : List (Option Value)} {l : List Value} (h : Fits ps l) : ∃ j, l = told j ps 0 := h.told_ 0

/-! ### Contracts -/
/-- The call returns, and what it returns is so. -/
def Does (P : Program) (f : FuncId) (args : Array Value) (w : World) (R : Value → World → Prop) : Prop :=
  Calls P f args w fun e w' => ∃ v, e = .returned v ∧ R v w'
theorem Does.mono {P : Program} {f : FuncId} {args : Array Value} {w : World} {R R' : Value → World → Prop} (h : Does P f args w R) (hr : ∀ v w', R v w' → R' v w') : Does P f args w R' :=
  Calls.mono h fun _ _ ⟨v, he, hv⟩ => ⟨v, he, hr v _ hv⟩

/-! ### Code -/
abbrev Post := Exit → List Value → World → Prop
def Cd (P : Program) (ds : List Deferred) (c : Code) (Q : Post) (l : List Value) (w : World) : Prop :=
  Code.wp P c (fun e a w' => a.defers = ds ∧ Q e a.tmps.toList w') ⟨l.toArray, ds⟩ w
def Ops (P : Program) (ds : List Deferred) (all : List Oper) (K : List Value → World → Prop) (Q : Post) (os : List Oper) (l : List Value) (w : World) : Prop :=
  wpList P all.toArray (Exit.then (fun a w' => a.defers = ds ∧ K a.tmps.toList w') (fun e a w' => a.defers = ds ∧ Q e a.tmps.toList w')) os ⟨l.toArray, ds⟩ w
/-- A region's operations that only read, in the order of the text. -/
def Still (P : Program) (ds : List Deferred) (all : List Oper) (w : World) (K : List Value → Prop) (os : List Oper) (l : List Value) : Prop :=
  wpStill P all.toArray w (fun a => a.defers = ds ∧ K a.tmps.toList) os ⟨l.toArray, ds⟩

section code
variable {P : Program} {ds : List Deferred} {Q : Post} {l : List Value} {w : World} {x y z : Code} {cs : List Code}
def seqQ (K : List Value → World → Prop) (Q : Post) : Post
  | .normal, l, w => K l w
  | e, l, w => Q e l w
/-- These pieces of code, one behind the other. -/
def Run (P : Program) (ds : List Deferred) : List Code → Post → List Value → World → Prop
  | [], Q => Q .normal
  | c :: cs, Q => Cd P ds c (seqQ (Run P ds cs Q) Q)
theorem cd_mono {c : Code} {Q' : Post} (h : Cd P ds c Q l w) (hq : ∀ e l w, Q e l w → Q' e l w) : Cd P ds c Q' l w :=
  Go.wp_mono h fun e _ w h => ⟨h.1, hq e _ w h.2⟩
theorem run_nil (h : Q .normal l w) : Run P ds [] Q l w := h
theorem run_seq (h : Run P ds (x :: y :: cs) Q l w) : Run P ds (.seq x y :: cs) Q l w := by
  refine wp_seq (Go.wp_mono h ?_)
  rintro e ⟨t, d⟩ w' ⟨hd, h2⟩
  cases e with
  | normal =>
    simp only at hd
    subst hd
    exact Go.wp_mono h2 (fun e a w h => by cases e <;> exact h)
  | _ => exact ⟨hd, h2⟩
theorem run_skip (h : Run P ds cs Q l w) : Run P ds (.skip :: cs) Q l w := wp_skip ⟨rfl, h⟩
theorem run_label {n : Nat} (h : Run P ds cs Q l w) : Run P ds (.label n :: cs) Q l w := wp_label ⟨rfl, h⟩
theorem run_ret (h : Q .ret l w) : Run P ds (.ret :: cs) Q l w := wp_ret ⟨rfl, h⟩
theorem run_exit {n : Nat} (h : Q (.exit n) l w) : Run P ds (.exit n :: cs) Q l w := wp_exit ⟨rfl, h⟩
theorem eval_of {x : Operand} {v : Value} (h : ev l x = some v) : (⟨l.toArray, ds⟩ : Act).eval x = v := by
  rw [rho_eq]; exact rho_of h
theorem run_cond_true {c : Operand} (hc : ev l c = some (.bool true)) (h : Run P ds (x :: cs) Q l w) : Run P ds (.cond c x y :: cs) Q l w :=
  wp_cond_true (eval_of hc) h
theorem run_cond_false {c : Operand} (hc : ev l c = some (.bool false)) (h : Run P ds (y :: cs) Q l w) : Run P ds (.cond c x y :: cs) Q l w :=
  wp_cond_false (eval_of hc) h
/-- A test: both ways. -/
theorem run_cond {c : Operand} {b : Bool} (hc : ev l c = some (.bool b)) (h1 : b = true → Run P ds (x :: cs) Q l w) (h2 : b = false → Run P ds (y :: cs) Q l w) : Run P ds (.cond c x y :: cs) Q l w := by
  cases b
  · exact run_cond_false hc (h2 rfl)
  · exact run_cond_true hc (h1 rfl)
def blkQ (n : Nat) (K : List Value → World → Prop) (Q : Post) : Post
  | .normal, l, w => K l w
  | .exit i, l, w => if i = n then K l w else Q (.exit i) l w
  | e, l, w => Q e l w
theorem run_block {n : Nat} (h : Run P ds [x] (blkQ n (Run P ds cs Q) Q) l w) : Run P ds (.block n x :: cs) Q l w := by
  refine wp_block (Go.wp_mono h ?_)
  rintro e a w' ⟨hd, h2⟩
  cases e with
  | exit i =>
    simp only [Exit.inBlock]
    simp only [seqQ, blkQ] at h2
    split
    · rename_i hi; rw [if_pos hi] at h2; exact ⟨hd, h2⟩
    · rename_i hi; rw [if_neg hi] at h2; exact ⟨hd, h2⟩
  | _ => exact ⟨hd, h2⟩
theorem blk_normal {n : Nat} {K : List Value → World → Prop} (h : K l w) : blkQ n K Q .normal l w := h
theorem blk_exit {n : Nat} {K : List Value → World → Prop} (h : K l w) : blkQ n K Q (.exit n) l w := by simpa [blkQ] using h
theorem blk_other {n i : Nat} {K : List Value → World → Prop} (hi : (i == n) = false) (h : Q (.exit i) l w) : blkQ n K Q (.exit i) l w := by
  have : ¬ i = n := by simpa using hi
  simpa [blkQ, this] using h
theorem blk_ret {n : Nat} {K : List Value → World → Prop} (h : Q .ret l w) : blkQ n K Q .ret l w := h
theorem blk_panic {n : Nat} {ch : List PanicEntry} {K : List Value → World → Prop} (h : Q (.panic ch) l w) : blkQ n K Q (.panic ch) l w := h
def rndQ (K : List Value → World → Prop) (Q : Post) : Post
  | .normal, l, w => K l w
  | e, l, w => Q e l w
theorem rnd_normal {K : List Value → World → Prop} (h : K l w) : rndQ K Q .normal l w := h
theorem rnd_exit {n : Nat} {K : List Value → World → Prop} (h : Q (.exit n) l w) : rndQ K Q (.exit n) l w := h
theorem rnd_ret {K : List Value → World → Prop} (h : Q .ret l w) : rndQ K Q .ret l w := h
theorem rnd_panic {ch : List PanicEntry} {K : List Value → World → Prop} (h : Q (.panic ch) l w) : rndQ K Q (.panic ch) l w := h
/-- A loop: what holds at the head of each round, with a number that every round lowers. -/
theorem run_loop (I : Nat → List Value → World → Prop) (n₀ : Nat) (h₀ : I n₀ l w)
    (round : ∀ n l w, I n l w → Run P ds [x] (rndQ (fun l' w' => ∃ n', n' < n ∧ I n' l' w') Q) l w) : Run P ds (.loop x :: cs) Q l w := by
  refine wp_loop_ghost (fun n a w => a.defers = ds ∧ I n a.tmps.toList w) n₀ ⟨rfl, h₀⟩ ?_
  rintro n ⟨t, d⟩ w' ⟨hd, hI⟩
  simp only at hd
  subst hd
  refine Go.wp_mono (round n _ _ hI) ?_
  rintro e a w2 ⟨hd, h2⟩
  cases e with
  | normal => exact (let ⟨n', hn, hI'⟩ := h2; ⟨n', hn, hd, hI'⟩)
  | _ => exact ⟨hd, h2⟩
/-- Where ways meet again. -/
theorem run_cut (M : List Value → World → Prop) (h1 : Run P ds [x] (rndQ M Q) l w) (h2 : ∀ l w, M l w → Run P ds cs Q l w) : Run P ds (x :: cs) Q l w := by
  refine cd_mono h1 ?_
  intro e l w h
  cases e with
  | normal => exact h2 _ _ h
  | _ => exact h
theorem run_region {n : Nat} {os : List Oper} (h : Ops P ds os (Run P ds cs Q) Q os l w) : Run P ds (.region n os.toArray false :: cs) Q l w := by
  refine wp_region_lit ?_
  have e : (Exit.then (fun (a : Act) w' => a.defers = ds ∧ Run P ds cs Q a.tmps.toList w') (fun e a w' => a.defers = ds ∧ Q e a.tmps.toList w')) =
      fun e (a : Act) w' => a.defers = ds ∧ seqQ (Run P ds cs Q) Q e a.tmps.toList w' := by
    funext e a w'; cases e <;> rfl
  rw [← e]
  exact h
theorem ops_nil {all : List Oper} {K : List Value → World → Prop} (h : K l w) : Ops P ds all K Q [] l w := wpList_nil ⟨rfl, h⟩
theorem still_mono {all : List Oper} {K K' : Act → Prop} (hk : ∀ a, K a → K' a) : ∀ (os : List Oper) (a : Act), wpStill P all.toArray w K os a → wpStill P all.toArray w K' os a
  | [], _, h => hk _ h
  | o :: os, a, h => by
    unfold wpStill at h ⊢
    split
    · rename_i hw; rw [if_pos hw] at h; exact Oper.still_mono (fun a h => still_mono hk os a h) h
    · rename_i hw; rw [if_neg hw] at h; exact still_mono hk os _ h
/-- A region that draws its order: so many operations that only read, then the others in one order. -/
theorem run_tail {n : Nat} {os : List Oper} (k : Nat) (hm : P.follows .mixedOrders = true) (hB : Region.lexTailB .any os.toArray k = true)
    (h : ∀ w', w' = { w with drawn := w.drawn + 1 } → Still P ds os w' (fun l' => Ops P ds os (Run P ds cs Q) Q (os.drop k) l' w') (os.take k) l) : Run P ds (.region n os.toArray true :: cs) Q l w := by
  refine wp_region_still_tail k hm hB ?_
  have e : (Exit.then (fun (a : Act) w' => a.defers = ds ∧ Run P ds cs Q a.tmps.toList w') (fun e a w' => a.defers = ds ∧ Q e a.tmps.toList w')) =
      fun e (a : Act) w' => a.defers = ds ∧ seqQ (Run P ds cs Q) Q e a.tmps.toList w' := by
    funext e a w'; cases e <;> rfl
  have h' := h _ rfl
  unfold Still Ops at h'
  rw [e] at h'
  refine still_mono ?_ _ _ h'
  rintro ⟨t, d⟩ ⟨hd, h2⟩
  simp only at hd
  subst hd
  exact h2
/-- A region that draws its order, all of whose operations only read. -/
theorem run_still {n : Nat} {os : List Oper} (hm : P.follows .mixedOrders = true) (hB : Region.lexB .any os.toArray = true)
    (h : ∀ w', w' = { w with drawn := w.drawn + 1 } → Still P ds os w' (fun l' => Run P ds cs Q l' w') os l) : Run P ds (.region n os.toArray true :: cs) Q l w := by
  refine wp_region_still_lit hm hB ?_
  exact h _ rfl
end code
end Go.Proofs.Ytbninklfoogmdaa
