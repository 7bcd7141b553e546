/-
  Parts of the walk, one behind the other.
-/
import Derived.Test.YtjoeklkmnfaabaaGreatRows
import Derived.WalkKit
import Derived.Deep.LoopGhost
import Derived.Deep.WholeRow
import Derived.StillTail
import Derived.OrdersHeld
import Derived.Laws.CopyRow
import Derived.Laws.StructEq
import Derived.Laws.ResultCell
import Derived.Lib.AppendZerosOnto
import Derived.Lib.Overlaps
import Derived.Lib.Bytealg
import Derived.MapKept
import Derived.Laws.Externs
/-
  The groundwork of this seat's walks: code is walked by one law an operation, over a frame that is a list; memory is told as a list of rows that the call knows.
-/
namespace Go.Proofs.YtjoeklkmnfaabaaGreat
open Go Go.RowKit

/-! ### Frames -/
def nth : List Value → Nat → Option Value
  | [], _ => none
  | a :: _, 0 => some a
  | _ :: l, n + 1 => nth l n
theorem nth_eq : ∀ (l : List Value) (n : Nat), nth l n = l[n]?
  | [], n => by simp [nth]
  | _ :: _, 0 => by simp [nth]
  | _ :: l, n + 1 => by simpa [nth] using nth_eq l n
def ev (l : List Value) : Operand → Option Value
  | .tmp t => nth l t
  | .const v => some v
  | .global g => some (.pointer (some ⟨g, 0, none⟩))
  | .func f => some (.func (.func f) #[] #[])
def evs (l : List Value) : List Operand → Option (List Value)
  | [] => some []
  | x :: xs => match ev l x, evs l xs with
    | some v, some vs => some (v :: vs)
    | _, _ => none
/-- A frame's reading, whatever is deferred. -/
def rho (l : List Value) : Operand → Value := Act.eval ⟨l.toArray, []⟩
theorem rho_eq (l : List Value) (ds : List Deferred) : Act.eval ⟨l.toArray, ds⟩ = rho l := by
  funext x; cases x <;> rfl
theorem rho_of {l : List Value} {x : Operand} {v : Value} (h : ev l x = some v) : rho l x = v := by
  cases x with
  | tmp t =>
    simp only [ev, nth_eq] at h
    simp [rho, Act.eval, h]
  | const c => simpa [ev, rho, Act.eval] using h
  | global g => simpa [ev, rho, Act.eval] using h
  | func f => simpa [ev, rho, Act.eval] using h
theorem rhos_of {l : List Value} : ∀ {xs : List Operand} {vs : List Value}, evs l xs = some vs → xs.map (rho l) = vs
  | [], vs, h => by simp [evs] at h; simp [h]
  | x :: xs, vs, h => by
    simp only [evs] at h
    cases hx : ev l x with
    | none => rw [hx] at h; simp at h
    | some v =>
      cases hxs : evs l xs with
      | none => rw [hx, hxs] at h; simp at h
      | some us =>
        rw [hx, hxs] at h
        simp only [Option.some.injEq] at h
        subst h
        simp [rho_of hx, rhos_of hxs]

/-- A frame, some of whose slots are told. -/
def Fits : List (Option Value) → List Value → Prop
  | [], l => l = []
  | some v :: ps, l => ∃ l', l = v :: l' ∧ Fits ps l'
  | none :: ps, l => ∃ x l', l = x :: l' ∧ Fits ps l'
theorem f0 : Fits [] [] := rfl
theorem fs {v : Value} {ps : List (Option Value)} {l : List Value} (h : Fits ps l) : Fits (some v :: ps) (v :: l) := ⟨l, rfl, h⟩
theorem fn {x : Value} {ps : List (Option Value)} {l : List Value} (h : Fits ps l) : Fits (none :: ps) (x :: l) := ⟨x, l, rfl, h⟩
def told (j : Nat → Value) : List (Option Value) → Nat → List Value
  | [], _ => []
  | some v :: ps, k => v :: told j ps (k + 1)
  | none :: ps, k => j k :: told j ps (k + 1)
theorem Fits.told_ : ∀ {ps : List (Option Value)} {l : List Value} (k : Nat), Fits ps l → ∃ j, l = told j ps k
  | [], l, k, h => ⟨fun _ => undef, h⟩
  | some v :: ps, l, k, h => by
    obtain ⟨l', rfl, h'⟩ := h
    obtain ⟨j, rfl⟩ := Fits.told_ (k + 1) h'
    exact ⟨j, rfl⟩
  | none :: ps, l, k, h => by
    obtain ⟨x, l', rfl, h'⟩ := h
    obtain ⟨j, rfl⟩ := Fits.told_ (k + 1) h'
    have key : ∀ (qs : List (Option Value)) (m : Nat), k < m → told (fun i => if i = k then x else j i) qs m = told j qs m := by
      intro qs
      induction qs with
      | nil => intro m _; rfl
      | cons q qs ih =>
        intro m hm
        cases q with
        | none => simp only [told]; rw [if_neg (by omega), ih (m + 1) (by omega)]
        | some v => simp only [told]; rw [ih (m + 1) (by omega)]
    refine ⟨fun i => if i = k then x else j i, ?_⟩
    simp only [told, if_true]
    rw [key ps (k + 1) (by omega)]
theorem Fits.open {ps : List (Option Value)} {l : List Value} (h : Fits ps l) : ∃ j, l = told j ps 0 := h.told_ 0

/-! ### Contracts -/
/-- The call returns, and what it returns is so. -/
def Does (P : Program) (f : FuncId) (args : Array Value) (w : World) (R : Value → World → Prop) : Prop :=
  Calls P f args w fun e w' => ∃ v, e = .returned v ∧ R v w'
theorem Does.mono {P : Program} {f : FuncId} {args : Array Value} {w : World} {R R' : Value → World → Prop} (h : Does P f args w R) (hr : ∀ v w', R v w' → R' v w') : Does P f args w R' :=
  Calls.mono h fun _ _ ⟨v, he, hv⟩ => ⟨v, he, hr v _ hv⟩

/-! ### Code -/
abbrev Post := Exit → List Value → World → Prop
def Cd (P : Program) (ds : List Deferred) (c : Code) (Q : Post) (l : List Value) (w : World) : Prop :=
  Code.wp P c (fun e a w' => a.defers = ds ∧ Q e a.tmps.toList w') ⟨l.toArray, ds⟩ w
def Ops (P : Program) (ds : List Deferred) (all : List Oper) (K : List Value → World → Prop) (Q : Post) (os : List Oper) (l : List Value) (w : World) : Prop :=
  wpList P all.toArray (Exit.then (fun a w' => a.defers = ds ∧ K a.tmps.toList w') (fun e a w' => a.defers = ds ∧ Q e a.tmps.toList w')) os ⟨l.toArray, ds⟩ w
/-- A region's operations that only read, in the order of the text. -/
def Still (P : Program) (ds : List Deferred) (all : List Oper) (w : World) (K : List Value → Prop) (os : List Oper) (l : List Value) : Prop :=
  wpStill P all.toArray w (fun a => a.defers = ds ∧ K a.tmps.toList) os ⟨l.toArray, ds⟩

section code
variable {P : Program} {ds : List Deferred} {Q : Post} {l : List Value} {w : World} {x y z : Code} {cs : List Code}
def seqQ (K : List Value → World → Prop) (Q : Post) : Post
  | .normal, l, w => K l w
  | e, l, w => Q e l w
/-- These pieces of code, one behind the other. -/
def Run (P : Program) (ds : List Deferred) : List Code → Post → List Value → World → Prop
  | [], Q => Q .normal
  | c :: cs, Q => Cd P ds c (seqQ (Run P ds cs Q) Q)
theorem run_nil (h : Q .normal l w) : Run P ds [] Q l w := h
theorem run_seq (h : Run P ds (x :: y :: cs) Q l w) : Run P ds (.seq x y :: cs) Q l w := by
  refine wp_seq (Go.wp_mono h ?_)
  rintro e ⟨t, d⟩ w' ⟨hd, h2⟩
  cases e with
  | normal =>
    simp only at hd
    subst hd
    exact Go.wp_mono h2 (fun e a w h => by cases e <;> exact h)
  | _ => exact ⟨hd, h2⟩
theorem run_skip (h : Run P ds cs Q l w) : Run P ds (.skip :: cs) Q l w := wp_skip ⟨rfl, h⟩
theorem run_ret (h : Q .ret l w) : Run P ds (.ret :: cs) Q l w := wp_ret ⟨rfl, h⟩
theorem run_exit {n : Nat} (h : Q (.exit n) l w) : Run P ds (.exit n :: cs) Q l w := wp_exit ⟨rfl, h⟩
theorem eval_of {x : Operand} {v : Value} (h : ev l x = some v) : (⟨l.toArray, ds⟩ : Act).eval x = v := by
  rw [rho_eq]; exact rho_of h
theorem run_cond_true {c : Operand} (hc : ev l c = some (.bool true)) (h : Run P ds (x :: cs) Q l w) : Run P ds (.cond c x y :: cs) Q l w :=
  wp_cond_true (eval_of hc) h
theorem run_cond_false {c : Operand} (hc : ev l c = some (.bool false)) (h : Run P ds (y :: cs) Q l w) : Run P ds (.cond c x y :: cs) Q l w :=
  wp_cond_false (eval_of hc) h
/-- A test: both ways. -/
theorem run_cond {c : Operand} {b : Bool} (hc : ev l c = some (.bool b)) (h1 : b = true → Run P ds (x :: cs) Q l w) (h2 : b = false → Run P ds (y :: cs) Q l w) : Run P ds (.cond c x y :: cs) Q l w := by
  cases b
  · exact run_cond_false hc (h2 rfl)
  · exact run_cond_true hc (h1 rfl)
def blkQ (n : Nat) (K : List Value → World → Prop) (Q : Post) : Post
  | .normal, l, w => K l w
  | .exit i, l, w => if i = n then K l w else Q (.exit i) l w
  | e, l, w => Q e l w
theorem run_block {n : Nat} (h : Run P ds [x] (blkQ n (Run P ds cs Q) Q) l w) : Run P ds (.block n x :: cs) Q l w := by
  refine wp_block (Go.wp_mono h ?_)
  rintro e a w' ⟨hd, h2⟩
  cases e with
  | exit i =>
    simp only [Exit.inBlock]
    simp only [seqQ, blkQ] at h2
    split
    · rename_i hi; rw [if_pos hi] at h2; exact ⟨hd, h2⟩
    · rename_i hi; rw [if_neg hi] at h2; exact ⟨hd, h2⟩
  | _ => exact ⟨hd, h2⟩
theorem blk_normal {n : Nat} {K : List Value → World → Prop} (h : K l w) : blkQ n K Q .normal l w := h
theorem blk_exit {n : Nat} {K : List Value → World → Prop} (h : K l w) : blkQ n K Q (.exit n) l w := by simpa [blkQ] using h
theorem blk_ret {n : Nat} {K : List Value → World → Prop} (h : Q .ret l w) : blkQ n K Q .ret l w := h
def rndQ (K : List Value → World → Prop) (Q : Post) : Post
  | .normal, l, w => K l w
  | e, l, w => Q e l w
theorem rnd_normal {K : List Value → World → Prop} (h : K l w) : rndQ K Q .normal l w := h
theorem rnd_exit {n : Nat} {K : List Value → World → Prop} (h : Q (.exit n) l w) : rndQ K Q (.exit n) l w := h
theorem rnd_ret {K : List Value → World → Prop} (h : Q .ret l w) : rndQ K Q .ret l w := h
/-- A loop: what holds at the head of each round, with a number that every round lowers. -/
theorem run_loop (I : Nat → List Value → World → Prop) (n₀ : Nat) (h₀ : I n₀ l w)
    (round : ∀ n l w, I n l w → Run P ds [x] (rndQ (fun l' w' => ∃ n', n' < n ∧ I n' l' w') Q) l w) : Run P ds (.loop x :: cs) Q l w := by
  refine wp_loop_ghost (fun n a w => a.defers = ds ∧ I n a.tmps.toList w) n₀ ⟨rfl, h₀⟩ ?_
  rintro n ⟨t, d⟩ w' ⟨hd, hI⟩
  simp only at hd
  subst hd
  refine Go.wp_mono (round n _ _ hI) ?_
  rintro e a w2 ⟨hd, h2⟩
  cases e with
  | normal => exact (let ⟨n', hn, hI'⟩ := h2; ⟨n', hn, hd, hI'⟩)
  | _ => exact ⟨hd, h2⟩
theorem run_region {n : Nat} {os : List Oper} (h : Ops P ds os (Run P ds cs Q) Q os l w) : Run P ds (.region n os.toArray false :: cs) Q l w := by
  refine wp_region_lit ?_
  have e : (Exit.then (fun (a : Act) w' => a.defers = ds ∧ Run P ds cs Q a.tmps.toList w') (fun e a w' => a.defers = ds ∧ Q e a.tmps.toList w')) =
      fun e (a : Act) w' => a.defers = ds ∧ seqQ (Run P ds cs Q) Q e a.tmps.toList w' := by
    funext e a w'; cases e <;> rfl
  rw [← e]
  exact h
theorem ops_nil {all : List Oper} {K : List Value → World → Prop} (h : K l w) : Ops P ds all K Q [] l w := wpList_nil ⟨rfl, h⟩
/-- A region that draws its order, all of whose operations only read. -/
theorem run_still {n : Nat} {os : List Oper} (hm : P.follows .mixedOrders = true) (hB : Region.lexB .any os.toArray = true)
    (h : ∀ w', w' = { w with drawn := w.drawn + 1 } → Still P ds os w' (fun l' => Run P ds cs Q l' w') os l) : Run P ds (.region n os.toArray true :: cs) Q l w := by
  refine wp_region_still_lit hm hB ?_
  exact h _ rfl
end code
end Go.Proofs.YtjoeklkmnfaabaaGreat
/-
  Memory as a list of rows that the call knows; the operations' laws, one an operation.
-/
namespace Go.Proofs.YtjoeklkmnfaabaaGreat
open Go Go.RowKit

/-! ### Memory -/
/-- A row: its block (none: it has none yet, and no cells), its elements' type, its cells. -/
abbrev Ent := Option Nat × TypeId × List Value
def EntOk (w0 w : World) (S : List Nat) (e : Ent) : Prop :=
  match e.1 with
  | none => e.2.2 = []
  | some g => w.heap[g]? = some (.cells e.2.2.toArray e.2.1 (0, 0)) ∧ (g ∈ S ∨ w0.heap.size ≤ g)
/-- The world w, seen from w0: of what was there only the blocks S may have turned; these rows stand there now, each in a block of its own. -/
structure Hp (w0 w : World) (S : List Nat) (es : List Ent) : Prop where
  os : w.os = w0.os
  tape : w.tape = w0.tape
  output : w.output = w0.output
  size : w0.heap.size ≤ w.heap.size
  frame : ∀ k, k < w0.heap.size → k ∉ S → w.heap[k]? = w0.heap[k]?
  ent : ∀ (i : Nat) (e : Ent), es[i]? = some e → EntOk w0 w S e
  apart : ∀ (i j : Nat) (e f : Ent) (g : Nat), es[i]? = some e → es[j]? = some f → e.1 = some g → f.1 = some g → i = j

abbrev hd (g : Option Nat) : Option Addr := g.map fun b => ⟨b, 0, none⟩

section mem
variable {w0 w w' : World} {S S' : List Nat} {es es' : List Ent} {i : Nat} {g : Nat} {T : TypeId} {cs : List Value}
theorem Hp.refl (w : World) : Hp w w [] [] := ⟨rfl, rfl, rfl, Nat.le_refl _, fun _ _ _ => rfl, by simp, by simp⟩
theorem Hp.at (H : Hp w0 w S es) (he : es[i]? = some (some g, T, cs)) : w.heap[g]? = some (.cells cs.toArray T (0, 0)) := (H.ent i _ he).1
theorem Hp.lt (H : Hp w0 w S es) (he : es[i]? = some (some g, T, cs)) : g < w.heap.size := (Array.getElem?_eq_some_iff.1 (H.at he)).1
theorem Hp.place (H : Hp w0 w S es) (he : es[i]? = some (some g, T, cs)) : g ∈ S ∨ w0.heap.size ≤ g := (H.ent i _ he).2
theorem Hp.none_ (H : Hp w0 w S es) (he : es[i]? = some (none, T, cs)) : cs = [] := H.ent i _ he
theorem Hp.cell (H : Hp w0 w S es) (he : es[i]? = some (some g, T, cs)) {o : Nat} {v : Value} (hv : cs[o]? = some v) : w.cell? ⟨g, o, none⟩ = some v := by
  simp [World.cell?, H.at he, hv]
theorem Hp.drew (H : Hp w0 w S es) : Hp w0 { w with drawn := w.drawn + 1 } S es := ⟨H.os, H.tape, H.output, H.size, H.frame, H.ent, H.apart⟩
theorem lt_of_get {α : Type} {l : List α} {i : Nat} {x : α} (h : l[i]? = some x) : i < l.length := (List.getElem?_eq_some_iff.1 h).1
theorem Hp.ent_lt (H : Hp w0 w S es) {e : Ent} (he : es[i]? = some e) {g : Nat} (hg : e.1 = some g) : g < w.heap.size := by
  obtain ⟨a, b, c⟩ := e
  simp only at hg
  subst hg
  exact H.lt he
theorem Hp.alloc (H : Hp w0 w S es) (T : TypeId) (cs : List Value) : Hp w0 (w.alloc (.cells cs.toArray T)) S (es ++ [(some w.heap.size, T, cs)]) := by
  refine ⟨H.os, H.tape, H.output, ?_, ?_, ?_, ?_⟩
  · have := H.size; simp; omega
  · intro k hk hS
    rw [heap_alloc_old w _ (by have := H.size; omega)]
    exact H.frame k hk hS
  · intro i e he
    rcases Nat.lt_or_ge i es.length with hi | hi
    · rw [List.getElem?_append_left hi] at he
      have h := H.ent i e he
      unfold EntOk at h ⊢
      split
      · rename_i hn; rw [hn] at h; exact h
      · rename_i g hg
        rw [hg] at h
        exact ⟨by rw [heap_alloc_old w _ (H.ent_lt he hg)]; exact h.1, h.2⟩
    · rw [List.getElem?_append_right hi] at he
      cases hj : i - es.length with
      | zero =>
        rw [hj] at he
        simp at he
        subst he
        exact ⟨heap_alloc_new w _, .inr H.size⟩
      | succ n => rw [hj] at he; simp at he
  · intro i j e f g hi hj hge hgf
    have key : ∀ (i : Nat) (e : Ent), (es ++ [(some w.heap.size, T, cs)])[i]? = some e → e.1 = some g → (i < es.length ∧ es[i]? = some e ∧ g < w.heap.size) ∨ (i = es.length ∧ g = w.heap.size) := by
      intro i e hi hg
      rcases Nat.lt_or_ge i es.length with h | h
      · rw [List.getElem?_append_left h] at hi
        exact .inl ⟨h, hi, H.ent_lt hi hg⟩
      · rw [List.getElem?_append_right h] at hi
        cases hk : i - es.length with
        | zero =>
          rw [hk] at hi
          simp at hi
          subst hi
          simp only [Option.some.injEq] at hg
          exact .inr ⟨by omega, hg.symm⟩
        | succ n => rw [hk] at hi; simp at hi
    rcases key i e hi hge with ⟨h1, h2, h3⟩ | ⟨h1, h2⟩ <;> rcases key j f hj hgf with ⟨h4, h5, h6⟩ | ⟨h4, h5⟩
    · exact H.apart i j e f g h2 h5 hge hgf
    · omega
    · omega
    · omega
/-- A slice that is nil owns a row without a block. -/
theorem Hp.nil (H : Hp w0 w S es) (T : TypeId) : Hp w0 w S (es ++ [(none, T, [])]) := by
  have key : ∀ (i : Nat) (e : Ent), (es ++ [((none : Option Nat), T, ([] : List Value))])[i]? = some e → es[i]? = some e ∨ e = (none, T, []) := by
    intro i e hi
    rcases Nat.lt_or_ge i es.length with h | h
    · rw [List.getElem?_append_left h] at hi; exact .inl hi
    · rw [List.getElem?_append_right h] at hi
      cases hk : i - es.length with
      | zero => rw [hk] at hi; simp at hi; exact .inr hi.symm
      | succ n => rw [hk] at hi; simp at hi
  refine ⟨H.os, H.tape, H.output, H.size, H.frame, ?_, ?_⟩
  · intro i e he
    rcases key i e he with h | rfl
    · exact H.ent i e h
    · rfl
  · intro i j e f g hi hj hge hgf
    rcases key i e hi with h | rfl
    · rcases key j f hj with h' | rfl
      · exact H.apart i j e f g h h' hge hgf
      · simp at hgf
    · simp at hge
/-- What is known of other rows, in another order. -/
theorem Hp.pick (H : Hp w0 w S es) (idx : List Nat) (hnd : idx.Nodup) : Hp w0 w S (idx.map fun i => es.getD i (none, 0, [])) := by
  have key : ∀ (k : Nat) (e : Ent), (idx.map fun i => es.getD i (none, 0, []))[k]? = some e → ∃ i, idx[k]? = some i ∧ (es[i]? = some e ∨ e = (none, 0, [])) := by
    intro k e hk
    rw [List.getElem?_map] at hk
    cases hi : idx[k]? with
    | none => rw [hi] at hk; simp at hk
    | some i =>
      rw [hi] at hk
      simp only [Option.map_some, Option.some.injEq] at hk
      refine ⟨i, rfl, ?_⟩
      cases he : es[i]? with
      | none => rw [List.getD_eq_getElem?_getD, he] at hk; exact .inr hk.symm
      | some x => rw [List.getD_eq_getElem?_getD, he] at hk; simp only [Option.getD_some] at hk; subst hk; exact .inl rfl
  refine ⟨H.os, H.tape, H.output, H.size, H.frame, ?_, ?_⟩
  · intro k e he
    obtain ⟨i, _, h | rfl⟩ := key k e he
    · exact H.ent i e h
    · rfl
  · intro a b e f g ha hb hge hgf
    obtain ⟨i, hi, h | rfl⟩ := key a e ha
    · obtain ⟨j, hj, h' | rfl⟩ := key b f hb
      · have := H.apart i j e f g h h' hge hgf
        subst this
        have h1 := List.getElem?_eq_some_iff.1 hi
        have h2 := List.getElem?_eq_some_iff.1 hj
        obtain ⟨x1, x2⟩ := h1
        obtain ⟨y1, y2⟩ := h2
        have hp := List.pairwise_iff_getElem.1 hnd
        rcases Nat.lt_trichotomy a b with hab | hab | hab
        · exact absurd (x2.trans y2.symm) (hp a b x1 y1 hab)
        · exact hab
        · exact absurd (y2.trans x2.symm) (hp b a y1 x1 hab)
      · simp at hgf
    · simp at hge
/-- One row written anew. -/
theorem Hp.setRow (H : Hp w0 w S es) (he : es[i]? = some (some g, T, cs)) (cs' : List Value) : Hp w0 (w.setRow g cs'.toArray) S (es.set i (some g, T, cs')) := by
  have hne : ∀ (j : Nat) (e : Ent) (h : Nat), es[j]? = some e → e.1 = some h → j ≠ i → h ≠ g := by
    intro j e h hj hh hji heq
    subst heq
    exact hji (H.apart j i _ _ h hj he hh rfl)
  refine ⟨H.os, H.tape, H.output, by simpa using H.size, ?_, ?_, ?_⟩
  · intro k hk hS
    have hkg : k ≠ g := by
      rintro rfl
      rcases H.place he with h | h
      · exact hS h
      · omega
    rw [setRow_other _ _ _ _ hkg]
    exact H.frame k hk hS
  · intro j e hj
    rw [List.getElem?_set] at hj
    split at hj
    · rename_i hij
      split at hj
      · simp only [Option.some.injEq] at hj
        subst hj
        exact ⟨setRow_heap _ _ _ _ _ _ (H.at he), H.place he⟩
      · simp at hj
    · rename_i hij
      have h := H.ent j e hj
      unfold EntOk at h ⊢
      split
      · rename_i hn; rw [hn] at h; exact h
      · rename_i k hk
        rw [hk] at h
        exact ⟨by rw [setRow_other _ _ _ _ (hne j e k hj hk (Ne.symm hij))]; exact h.1, h.2⟩
  · have key : ∀ (j : Nat) (e : Ent), (es.set i (some g, T, cs'))[j]? = some e → ∃ e' : Ent, es[j]? = some e' ∧ e'.1 = e.1 := by
      intro j e hj
      rw [List.getElem?_set] at hj
      split at hj
      · rename_i hij
        split at hj
        · simp only [Option.some.injEq] at hj; subst hj; exact ⟨(some g, T, cs), by rw [← hij]; exact he, rfl⟩
        · simp at hj
      · exact ⟨e, hj, rfl⟩
    intro a b e f k ha hb hge hgf
    obtain ⟨e', he', h1⟩ := key a e ha
    obtain ⟨f', hf', h2⟩ := key b f hb
    exact H.apart a b e' f' k he' hf' (h1.trans hge) (h2.trans hgf)
/-- Rows that are no longer told of. -/
def kill (es : List Ent) : List Nat → List Ent
  | [] => es
  | i :: is => (kill es is).set i (none, 0, [])
theorem kill_get : ∀ (is : List Nat) (j : Nat) (e : Ent), (kill es is)[j]? = some e → (es[j]? = some e ∧ j ∉ is) ∨ e = (none, 0, [])
  | [], j, e, h => .inl ⟨h, by simp⟩
  | i :: is, j, e, h => by
    simp only [kill] at h
    rw [List.getElem?_set] at h
    split at h
    · split at h
      · simp only [Option.some.injEq] at h; exact .inr h.symm
      · simp at h
    · rename_i hij
      rcases kill_get is j e h with ⟨h1, h2⟩ | h1
      · exact .inl ⟨h1, by simp [h2, Ne.symm hij]⟩
      · exact .inr h1
/-- Behind a call that may have written the blocks S', all of them rows that are told of here. -/
theorem Hp.call (H : Hp w0 w S es) (H' : Hp w w' S' es') (is : List Nat) (hS : ∀ b ∈ S', ∃ i ∈ is, ∃ T cs, es[i]? = some (some b, T, cs)) : Hp w0 w' S (kill es is ++ es') := by
  have hold : ∀ b, b ∈ S' → b ∈ S ∨ w0.heap.size ≤ b := by
    intro b hb
    obtain ⟨i, _, T, cs, he⟩ := hS b hb
    exact H.place he
  have hk : ∀ (j : Nat) (e : Ent) (h : Nat), (kill es is)[j]? = some e → e.1 = some h → es[j]? = some e ∧ h ∉ S' ∧ h < w.heap.size := by
    intro j e h hj hh
    rcases kill_get is j e hj with ⟨h1, h2⟩ | rfl
    · refine ⟨h1, ?_, H.ent_lt h1 hh⟩
      intro hb
      obtain ⟨i, hi, T, cs, he⟩ := hS h hb
      have := H.apart j i e _ h h1 he hh rfl
      subst this
      exact h2 hi
    · simp at hh
  have hlen : (kill es is).length = es.length := by
    clear hk hS
    induction is with
    | nil => rfl
    | cons i is ih => simp [kill, ih]
  refine ⟨H'.os.trans H.os, H'.tape.trans H.tape, H'.output.trans H.output, Nat.le_trans H.size H'.size, ?_, ?_, ?_⟩
  · intro k hk0 hkS
    rw [H'.frame k (by have := H.size; omega) (fun hb => by rcases hold k hb with h | h; exact hkS h; omega)]
    exact H.frame k hk0 hkS
  · intro j e hj
    rcases Nat.lt_or_ge j (kill es is).length with h | h
    · rw [List.getElem?_append_left h] at hj
      unfold EntOk
      split
      · rename_i hn
        rcases kill_get is j e hj with ⟨h1, _⟩ | rfl
        · have := H.ent j e h1; unfold EntOk at this; rw [hn] at this; exact this
        · rfl
      · rename_i k hk'
        obtain ⟨h1, h2, h3⟩ := hk j e k hj hk'
        have := H.ent j e h1
        unfold EntOk at this
        rw [hk'] at this
        exact ⟨by rw [H'.frame k h3 h2]; exact this.1, this.2⟩
    · rw [List.getElem?_append_right h] at hj
      have := H'.ent _ e hj
      unfold EntOk at this ⊢
      split
      · rename_i hn; rw [hn] at this; exact this
      · rename_i k hk'
        rw [hk'] at this
        refine ⟨this.1, ?_⟩
        rcases this.2 with h1 | h1
        · exact hold k h1
        · exact .inr (Nat.le_trans H.size h1)
  · have key : ∀ (j : Nat) (e : Ent) (g : Nat), (kill es is ++ es')[j]? = some e → e.1 = some g → (j < es.length ∧ es[j]? = some e ∧ g ∉ S' ∧ g < w.heap.size) ∨ (es.length ≤ j ∧ es'[j - es.length]? = some e ∧ (g ∈ S' ∨ w.heap.size ≤ g)) := by
      intro j e g hj hg
      rcases Nat.lt_or_ge j (kill es is).length with h | h
      · rw [List.getElem?_append_left h] at hj
        exact .inl ⟨by omega, hk j e g hj hg⟩
      · rw [List.getElem?_append_right h, hlen] at hj
        have := H'.ent _ e hj
        unfold EntOk at this
        rw [hg] at this
        exact .inr ⟨by omega, hj, this.2⟩
    intro a b e f g ha hb hge hgf
    rcases key a e g ha hge with ⟨_, h2, h3, h4⟩ | ⟨h1, h2, h3⟩ <;> rcases key b f g hb hgf with ⟨_, h6, h7, h8⟩ | ⟨h5, h6, h7⟩
    · exact H.apart a b e f g h2 h6 hge hgf
    · rcases h7 with h | h
      · exact absurd h h3
      · omega
    · rcases h3 with h | h
      · exact absurd h h7
      · omega
    · have := H'.apart _ _ e f g h2 h6 hge hgf
      omega
theorem Hp.call0 (H : Hp w0 w S es) (H' : Hp w w' [] es') : Hp w0 w' S (es ++ es') := H.call H' [] (by simp)
/-- A row out of a block that was there. -/
theorem Hp.old (hg : w.heap[g]? = some (.cells cs.toArray T (0, 0))) : Hp w w [g] [(some g, T, cs)] := by
  refine ⟨rfl, rfl, rfl, Nat.le_refl _, fun _ _ _ => rfl, ?_, ?_⟩
  · intro i e he
    cases i with
    | zero => simp at he; subst he; exact ⟨hg, .inl (by simp)⟩
    | succ n => simp at he
  · intro i j e f _ hi hj _ _
    cases i with
    | zero => cases j with
      | zero => rfl
      | succ n => simp at hj
    | succ n => simp at hi
theorem Hp.below (H : Hp w0 w [] es) : Below w0.heap.size w0 w := ⟨H.os, H.tape, H.output, H.size, fun k hk => H.frame k hk (by simp)⟩

/-! ### A slice that reads as a list of cells -/
structure Rd (w : World) (A : Option Addr) (n sz : Nat) (xs : List Value) : Prop where
  len : xs.length = n * sz
  cells : ∀ a, A = some a → ∀ j u, xs[j]? = some u → w.cell? (a.add j) = some u
  nil : A = none → n = 0
theorem Rd.to {A : Option Addr} {n sz : Nat} {xs : List Value} (h : Rd w0 A n sz xs) (H : Hp w0 w S es) (hS : ∀ a, A = some a → a.block ∉ S) : Rd w A n sz xs := by
  refine ⟨h.len, fun a ha j u hu => ?_, h.nil⟩
  have hc := h.cells a ha j u hu
  have hb : (a.add j).block = a.block := by unfold Addr.add; split <;> rfl
  have hlt := World.block_lt_of_cell? w0 _ hc
  rw [World.cell?_of_block (w := w0)]
  · exact hc
  · exact H.frame _ hlt (by rw [hb]; exact hS a ha)
theorem Rd.to0 {A : Option Addr} {n sz : Nat} {xs : List Value} (h : Rd w0 A n sz xs) (H : Hp w0 w [] es) : Rd w A n sz xs := h.to H (by simp)
theorem Hp.rd (H : Hp w0 w S es) {o : Option Nat} {xs sp : List Value} (he : es[i]? = some (o, T, xs ++ sp)) {n sz : Nat} (hn : xs.length = n * sz) (hz : 0 < sz) : Rd w (hd o) n sz xs := by
  cases o with
  | none =>
    have := H.none_ he
    have hx : xs = [] := (List.append_eq_nil_iff.1 this).1
    subst hx
    refine ⟨hn, by simp [hd], fun _ => ?_⟩
    simp only [List.length_nil] at hn
    rcases Nat.mul_eq_zero.1 hn.symm with h | h
    · exact h
    · omega
  | some g =>
    refine ⟨hn, fun a ha j u hu => ?_, by simp [hd]⟩
    simp only [hd, Option.map_some, Option.some.injEq] at ha
    subst ha
    rw [Addr.add_lit, Nat.zero_add]
    refine H.cell he ?_
    rw [List.getElem?_append_left (lt_of_get hu)]
    exact hu
theorem add_add (a : Addr) (i j : Nat) : (a.add i).add j = a.add (i + j) := by
  unfold Addr.add
  by_cases hi : i = 0 <;> by_cases hj : j = 0 <;> simp [hi, hj, Nat.add_assoc]
/-- A cut of a slice. -/
theorem Rd.cut {A : Option Addr} {n sz : Nat} {xs : List Value} (h : Rd w A n sz xs) (lo hi mx : Nat) (h1 : lo ≤ hi) (h2 : hi ≤ n) (h3 : hi ≤ mx) :
    Rd w (if mx = lo then A else A.map (·.add (lo * sz))) (hi - lo) sz ((xs.drop (lo * sz)).take ((hi - lo) * sz)) := by
  refine ⟨?_, ?_, ?_⟩
  · rw [List.length_take, List.length_drop, h.len, ← Nat.sub_mul]
    exact Nat.min_eq_left (Nat.mul_le_mul_right _ (by omega))
  · intro a ha j u hu
    by_cases hm : mx = lo
    · have : hi - lo = 0 := by omega
      rw [this] at hu
      simp at hu
    · rw [if_neg hm] at ha
      cases A with
      | none => simp at ha
      | some b =>
        simp only [Option.map_some, Option.some.injEq] at ha
        subst ha
        rw [add_add]
        refine h.cells b rfl _ u ?_
        rw [List.getElem?_take] at hu
        split at hu
        · rwa [List.getElem?_drop] at hu
        · cases hu
  · intro hA
    by_cases hm : mx = lo
    · omega
    · rw [if_neg hm] at hA
      cases A with
      | none => have := h.nil rfl; omega
      | some b => simp at hA
theorem Rd.none_ (w : World) (sz : Nat) : Rd w none 0 sz [] := ⟨by simp, by simp, fun _ => rfl⟩
theorem Rd.some_ {A : Option Addr} {n sz : Nat} {xs : List Value} (h : Rd w A n sz xs) (hn : 0 < n) : ∃ a, A = some a := by
  cases A with
  | none => have := h.nil rfl; omega
  | some a => exact ⟨a, rfl⟩
end mem
end Go.Proofs.YtjoeklkmnfaabaaGreat
/-
  One law an operation: what it yields over a frame, and how a walk goes on behind it.
-/
namespace Go.Proofs.YtjoeklkmnfaabaaGreat
open Go Go.RowKit

/-- The operation runs so. -/
def Ex (P : Program) (l : List Value) (op : Op) (ty : TypeId) (w : World) (nx : Next) (w' : World) : Prop :=
  ∀ d pos af g, (execOp (rho l) ⟨d, op, ty, pos, af, g⟩).run P w = .ok nx w'
section steps
variable {P : Program} {ds : List Deferred} {Q : Post} {K : List Value → World → Prop} {all os : List Oper} {l : List Value} {w w' : World} {op : Op} {ty : TypeId} {pos : String} {af : Array Edge} {d : Tmp} {v : Value}
theorem list_put (l : List Value) (ds : List Deferred) (d : Tmp) (v : Value) : (⟨l.toArray, ds⟩ : Act).put (some d) v = ⟨(l.set d v).toArray, ds⟩ := by
  simp [Act.put]
theorem ops_val (hx : Ex P l op ty w (.value v) w') (h : Ops P ds all K Q os (l.set d v) w') : Ops P ds all K Q (⟨some d, op, ty, pos, af, none⟩ :: os) l w := by
  refine wpList_plain rfl fun K' hK => ?_
  unfold Oper.wp
  rw [rho_eq, hx, Oper.upon_value]
  refine hK _ _ ?_
  rw [list_put]
  exact h
theorem ops_skip (hx : Ex P l op ty w .skip w') (h : Ops P ds all K Q os l w') : Ops P ds all K Q (⟨none, op, ty, pos, af, none⟩ :: os) l w := by
  refine wpList_plain rfl fun K' hK => ?_
  unfold Oper.wp
  rw [rho_eq, hx, Oper.upon_skip]
  exact hK _ _ h
theorem ops_call {f : FuncId} {args : Array Value} {R : Value → World → Prop} (hx : Ex P l op ty w (.enter f args) w) (hc : Does P f args w R)
    (h : ∀ v w', R v w' → Ops P ds all K Q os (l.set d v) w') : Ops P ds all K Q (⟨some d, op, ty, pos, af, none⟩ :: os) l w := by
  refine wpList_plain rfl fun K' hK => ?_
  unfold Oper.wp
  rw [rho_eq, hx, Oper.upon_enter]
  refine Calls.mono hc ?_
  rintro e w2 ⟨v, rfl, hR⟩
  refine hK _ _ ?_
  rw [list_put]
  exact h v w2 hR
theorem ops_call_eq {f : FuncId} {args : Array Value} (hx : Ex P l op ty w (.enter f args) w) (hc : Does P f args w fun r w' => r = v ∧ w' = w)
    (h : Ops P ds all K Q os (l.set d v) w) : Ops P ds all K Q (⟨some d, op, ty, pos, af, none⟩ :: os) l w :=
  ops_call hx hc fun r w' ⟨h1, h2⟩ => by rw [h1, h2]; exact h
theorem ops_call_val {f : FuncId} {args : Array Value} {R : World → Prop} (hx : Ex P l op ty w (.enter f args) w) (hc : Does P f args w fun r w' => r = v ∧ R w')
    (h : ∀ w', R w' → Ops P ds all K Q os (l.set d v) w') : Ops P ds all K Q (⟨some d, op, ty, pos, af, none⟩ :: os) l w :=
  ops_call hx hc fun r w' ⟨h1, h2⟩ => by rw [h1]; exact h w' h2
/-- A test that is known. -/
theorem ops_true {p : Prop} {_ : Decidable p} (hx : Ex P l op ty w (.value (.bool (decide p))) w) (hp : p) (h : Ops P ds all K Q os (l.set d (.bool true)) w) : Ops P ds all K Q (⟨some d, op, ty, pos, af, none⟩ :: os) l w :=
  ops_val hx (by rw [decide_eq_true hp]; exact h)
theorem ops_false {p : Prop} {_ : Decidable p} (hx : Ex P l op ty w (.value (.bool (decide p))) w) (hp : ¬ p) (h : Ops P ds all K Q os (l.set d (.bool false)) w) : Ops P ds all K Q (⟨some d, op, ty, pos, af, none⟩ :: os) l w :=
  ops_val hx (by rw [decide_eq_false hp]; exact h)
theorem ops_test {p : Prop} {_ : Decidable p} (hx : Ex P l op ty w (.value (.bool (decide p))) w) (h1 : p → Ops P ds all K Q os (l.set d (.bool true)) w) (h2 : ¬ p → Ops P ds all K Q os (l.set d (.bool false)) w) :
    Ops P ds all K Q (⟨some d, op, ty, pos, af, none⟩ :: os) l w := by
  by_cases hp : p
  · exact ops_true hx hp (h1 hp)
  · exact ops_false hx hp (h2 hp)
/-- Guards. -/
def yes (all : List Oper) (l : List Value) (j : Nat) : Option Bool :=
  match all[j]? with
  | some o => match o.dst with
    | some t => match nth l t with
      | some (.bool b) => some b
      | _ => none
    | none => none
  | none => none
theorem yielded_eq (all : List Oper) (l : List Value) (j : Nat) : yielded all.toArray l.toArray j = yes all l j := by
  simp only [yielded, yes, nth_eq, List.getElem?_toArray]
  cases all[j]? with
  | none => rfl
  | some o =>
    simp only [Option.bind_some]
    cases o.dst with
    | none => rfl
    | some t => simp only [Option.bind_some]; cases l[t]? <;> rfl
theorem ops_yes {dst : Option Tmp} {j : Nat} {b : Bool} (hg : yes all l j = some b) (h : Ops P ds all K Q (⟨dst, op, ty, pos, af, none⟩ :: os) l w) : Ops P ds all K Q (⟨dst, op, ty, pos, af, some (j, b)⟩ :: os) l w := by
  unfold Ops wpList at h ⊢
  have e1 : Region.wanted ⟨dst, op, ty, pos, af, some (j, b)⟩ (yielded all.toArray l.toArray) = true := by simp [Region.wanted, yielded_eq, hg]
  have e2 : Region.wanted ⟨dst, op, ty, pos, af, none⟩ (yielded all.toArray l.toArray) = true := rfl
  rw [if_pos e1]
  rw [if_pos e2] at h
  exact h
theorem ops_no {j : Nat} {b : Bool} (hg : (yes all l j == some b) = false) (h : Ops P ds all K Q os (l.set d undef) w) : Ops P ds all K Q (⟨some d, op, ty, pos, af, some (j, b)⟩ :: os) l w := by
  refine wpList_skip ?_ ?_
  · simpa [Region.wanted, yielded_eq] using hg
  · rw [list_put]; exact h
/-! The same in a region that draws its order. -/
variable {KS : List Value → Prop}
theorem still_nil (h : KS l) : Still P ds all w KS [] l := wpStill_nil ⟨rfl, h⟩
theorem still_go (h : Oper.still P ⟨some d, op, ty, pos, af, none⟩ ⟨l.toArray, ds⟩ w (wpStill P all.toArray w (fun a => a.defers = ds ∧ KS a.tmps.toList) os)) : Still P ds all w KS (⟨some d, op, ty, pos, af, none⟩ :: os) l := h
theorem still_val (hx : Ex P l op ty w (.value v) w) (h : Still P ds all w KS os (l.set d v)) : Still P ds all w KS (⟨some d, op, ty, pos, af, none⟩ :: os) l := by
  refine still_go ?_
  unfold Oper.still
  rw [rho_eq, hx, Oper.stillUpon_value, list_put]
  exact h
theorem still_true {p : Prop} {_ : Decidable p} (hx : Ex P l op ty w (.value (.bool (decide p))) w) (hp : p) (h : Still P ds all w KS os (l.set d (.bool true))) : Still P ds all w KS (⟨some d, op, ty, pos, af, none⟩ :: os) l :=
  still_val hx (by rw [decide_eq_true hp]; exact h)
theorem still_false {p : Prop} {_ : Decidable p} (hx : Ex P l op ty w (.value (.bool (decide p))) w) (hp : ¬ p) (h : Still P ds all w KS os (l.set d (.bool false))) : Still P ds all w KS (⟨some d, op, ty, pos, af, none⟩ :: os) l :=
  still_val hx (by rw [decide_eq_false hp]; exact h)
theorem still_test {p : Prop} {_ : Decidable p} (hx : Ex P l op ty w (.value (.bool (decide p))) w) (h1 : p → Still P ds all w KS os (l.set d (.bool true))) (h2 : ¬ p → Still P ds all w KS os (l.set d (.bool false))) :
    Still P ds all w KS (⟨some d, op, ty, pos, af, none⟩ :: os) l := by
  by_cases hp : p
  · exact still_true hx hp (h1 hp)
  · exact still_false hx hp (h2 hp)
theorem still_yes {dst : Option Tmp} {j : Nat} {b : Bool} (hg : yes all l j = some b) (h : Still P ds all w KS (⟨dst, op, ty, pos, af, none⟩ :: os) l) : Still P ds all w KS (⟨dst, op, ty, pos, af, some (j, b)⟩ :: os) l := by
  have e1 : Region.wanted ⟨dst, op, ty, pos, af, some (j, b)⟩ (yielded all.toArray l.toArray) = true := by simp [Region.wanted, yielded_eq, hg]
  show (if _ then _ else _)
  rw [if_pos e1]
  exact h
theorem still_no {j : Nat} {b : Bool} (hg : (yes all l j == some b) = false) (h : Still P ds all w KS os (l.set d undef)) : Still P ds all w KS (⟨some d, op, ty, pos, af, some (j, b)⟩ :: os) l := by
  have e1 : ¬ Region.wanted ⟨some d, op, ty, pos, af, some (j, b)⟩ (yielded all.toArray l.toArray) = true := by simpa [Region.wanted, yielded_eq] using hg
  show (if _ then _ else _)
  rw [if_neg e1, list_put]
  exact h
end steps

/-! ### What the operations yield -/
section ex
variable {P : Program} {l : List Value} {w : World} {ty t t' : TypeId} {x y z : Operand} {k k' : IntKind} {m n r : Int} {b : Bool} {u v : Value}
theorem ex_move (hx : ev l x = some v) : Ex P l (.move x) ty w (.value v) w := fun _ _ _ _ => by simp [execOp, rho_of hx]
theorem ex_assign (hx : ev l x = some v) : Ex P l (.assign x) ty w (.value v) w := fun _ _ _ _ => by simp [execOp, rho_of hx]
theorem ex_pick_t (hc : ev l x = some (.bool true)) (hx : ev l y = some v) : Ex P l (.pick x y z) ty w (.value v) w := fun _ _ _ _ => by simp [execOp, rho_of hc, rho_of hx, asBool]
theorem ex_pick_f (hc : ev l x = some (.bool false)) (hx : ev l z = some v) : Ex P l (.pick x y z) ty w (.value v) w := fun _ _ _ _ => by simp [execOp, rho_of hc, rho_of hx, asBool]
theorem ex_not (hx : ev l x = some (.bool b)) : Ex P l (.unOp .not t x) ty w (.value (.bool (!b))) w := fun _ _ _ _ => by simp [execOp, rho_of hx, Op.unary]
theorem ex_add (hx : ev l x = some (.int k m)) (hy : ev l y = some (.int k n)) (hr : k.wrap (m + n) = r) : Ex P l (.binOp .add t x y t') ty w (.value (.int k r)) w := fun _ _ _ _ => by
  simp [execOp, rho_of hx, rho_of hy, binOp, Op.intArith, eqGuard, hr]
theorem ex_sub (hx : ev l x = some (.int k m)) (hy : ev l y = some (.int k n)) (hr : k.wrap (m - n) = r) : Ex P l (.binOp .sub t x y t') ty w (.value (.int k r)) w := fun _ _ _ _ => by
  simp [execOp, rho_of hx, rho_of hy, binOp, Op.intArith, eqGuard, hr]
theorem ex_shr (hx : ev l x = some (.int k m)) (hy : ev l y = some (.int k' n)) (h0 : 0 ≤ n) (hr : m.fdiv (2 ^ (min n.toNat k.bits)) = r) : Ex P l (.binOp .shr t x y t') ty w (.value (.int k r)) w := fun _ _ _ _ => by
  have h0' : ¬ n < 0 := by omega
  simp [execOp, rho_of hx, rho_of hy, binOp, Op.shift, eqGuard, h0', ← hr]
theorem ex_lss (hx : ev l x = some (.int k m)) (hy : ev l y = some (.int k n)) : Ex P l (.binOp .lss t x y t') ty w (.value (.bool (decide (m < n)))) w := fun _ _ _ _ => by
  simp [execOp, rho_of hx, rho_of hy, binOp, Op.intCmp, eqGuard]
theorem ex_leq (hx : ev l x = some (.int k m)) (hy : ev l y = some (.int k n)) : Ex P l (.binOp .leq t x y t') ty w (.value (.bool (decide (m ≤ n)))) w := fun _ _ _ _ => by
  simp [execOp, rho_of hx, rho_of hy, binOp, Op.intCmp, eqGuard]
theorem ex_gtr (hx : ev l x = some (.int k m)) (hy : ev l y = some (.int k n)) : Ex P l (.binOp .gtr t x y t') ty w (.value (.bool (decide (n < m)))) w := fun _ _ _ _ => by
  simp [execOp, rho_of hx, rho_of hy, binOp, Op.intCmp, eqGuard]
theorem ex_geq (hx : ev l x = some (.int k m)) (hy : ev l y = some (.int k n)) : Ex P l (.binOp .geq t x y t') ty w (.value (.bool (decide (n ≤ m)))) w := fun _ _ _ _ => by
  simp [execOp, rho_of hx, rho_of hy, binOp, Op.intCmp, eqGuard]
theorem ex_eql (hx : ev l x = some (.int k m)) (hy : ev l y = some (.int k n)) : Ex P l (.binOp .eql t x y t') ty w (.value (.bool (decide (m = n)))) w := fun _ _ _ _ => by
  simp [execOp, rho_of hx, rho_of hy, binOp, Op.intCmp, eqGuard]
  rfl
theorem ex_neq (hx : ev l x = some (.int k m)) (hy : ev l y = some (.int k n)) : Ex P l (.binOp .neq t x y t') ty w (.value (.bool (decide (m ≠ n)))) w := fun _ _ _ _ => by
  simp [execOp, rho_of hx, rho_of hy, binOp, Op.intCmp, eqGuard, bne]
  rfl
theorem ex_conv (hd : P.underlying t' = some (.int k)) (hs : P.underlying t = some (.int k')) {k2 : IntKind} (hx : ev l x = some (.int k2 m)) (hr : k.wrap m = r) : Ex P l (.convert t t' x) ty w (.value (.int k r)) w := fun _ _ _ _ => by
  simp [execOp, rho_of hx, convert, run_underlying hd, run_underlying hs, Conv.intToInt, hr]
theorem ex_nilCheck {a : Addr} (hx : ev l x = some (.pointer (some a))) : Ex P l (.nilCheck x) ty w (.value (.pointer (some a))) w := fun _ _ _ _ => by
  simp [execOp, rho_of hx]
theorem ex_extract {vs : List Value} {i : Nat} (hx : ev l x = some (.tuple vs.toArray)) (hi : vs[i]? = some v) : Ex P l (.extract x i) ty w (.value v) w := fun _ _ _ _ => by
  simp [execOp, rho_of hx, Instr.extract, hi]
theorem ex_makeFunc {fn : Fn} {xs ys : List Operand} {us vs : List Value} (h1 : evs l xs = some us) (h2 : evs l ys = some vs) : Ex P l (.makeFunc fn xs.toArray ys.toArray) ty w (.value (.func fn us.toArray vs.toArray)) w := fun _ _ _ _ => by
  simp [execOp, Instr.makeFunc, rhos_of h1, rhos_of h2]
theorem ex_len_slice {e : TypeId} {A : Option Addr} {n c : Nat} {ats : Array TypeId} (ht : (ats[0]?).bind P.underlying = some (.slice e)) (hx : ev l x = some (.slice A n c)) :
    Ex P l (.call { callee := .builtin .len, args := #[x], argTypes := ats }) ty w (.value (.int .i64 n)) w := fun _ _ _ _ => by
  cases ha : ats[0]? with
  | none => rw [ha] at ht; simp at ht
  | some s =>
    rw [ha] at ht
    simp only [Option.bind_some] at ht
    simp [execOp, resolve, invoke, builtin, rho_of hx, Builtin.len_, ha, run_underlying ht, goInt]
theorem ex_cap_slice {e : TypeId} {A : Option Addr} {n c : Nat} {ats : Array TypeId} (ht : (ats[0]?).bind P.underlying = some (.slice e)) (hx : ev l x = some (.slice A n c)) :
    Ex P l (.call { callee := .builtin .cap, args := #[x], argTypes := ats }) ty w (.value (.int .i64 c)) w := fun _ _ _ _ => by
  cases ha : ats[0]? with
  | none => rw [ha] at ht; simp at ht
  | some s =>
    rw [ha] at ht
    simp only [Option.bind_some] at ht
    simp [execOp, resolve, invoke, builtin, rho_of hx, Builtin.cap_, ha, run_underlying ht, goInt]
theorem ex_len_string {s : ByteArray} {ats : Array TypeId} (ht : (ats[0]?).bind P.underlying = some .string) (hx : ev l x = some (.string s)) :
    Ex P l (.call { callee := .builtin .len, args := #[x], argTypes := ats }) ty w (.value (.int .i64 s.size)) w := fun _ _ _ _ => by
  cases ha : ats[0]? with
  | none => rw [ha] at ht; simp at ht
  | some u =>
    rw [ha] at ht
    simp only [Option.bind_some] at ht
    simp [execOp, resolve, invoke, builtin, rho_of hx, Builtin.len_, ha, run_underlying ht, goInt]
theorem ex_max {ats : Array TypeId} (hx : ev l x = some (.int k m)) (hy : ev l y = some (.int k n)) :
    Ex P l (.call { callee := .builtin .max, args := #[x, y], argTypes := ats }) ty w (.value (.int k (max m n))) w := fun _ _ _ _ => by
  simp [execOp, resolve, invoke, builtin, rho_of hx, rho_of hy, Builtin.max_, Builtin.max2]
  by_cases h : m < n
  · rw [if_pos h]; omega
  · rw [if_neg h]; omega
theorem ex_min {ats : Array TypeId} (hx : ev l x = some (.int k m)) (hy : ev l y = some (.int k n)) :
    Ex P l (.call { callee := .builtin .min, args := #[x, y], argTypes := ats }) ty w (.value (.int k (min m n))) w := fun _ _ _ _ => by
  simp [execOp, resolve, invoke, builtin, rho_of hx, rho_of hy, Builtin.min_, Builtin.min2]
  by_cases h : n < m
  · rw [if_pos h]; omega
  · rw [if_neg h]; omega
theorem run_callFunc {f : FuncId} {fn : Func} {c : Code} (hf : P.funcs[f]? = some fn) (hb : fn.body = some c) (hn : (fn.name == "runtime.NumGoroutine") = false) (args : Array Value) : (callFunc f args).run P w = .ok (.enter f args) w := by
  have hn' : ¬ fn.name = "runtime.NumGoroutine" := by simpa using hn
  simp [callFunc, hf, hb, program, Sem.run, hn']
/-- What a call of a function of the program wants to know of it. -/
def goFn (P : Program) (f : FuncId) : Bool := match P.funcs[f]? with
  | some fn => fn.body.isSome && !(fn.name == "runtime.NumGoroutine")
  | none => false
theorem run_goFn {f : FuncId} (h : goFn P f = true) (args : Array Value) : (callFunc f args).run P w = .ok (.enter f args) w := by
  unfold goFn at h
  split at h
  · rename_i fn hf
    simp only [Bool.and_eq_true, Bool.not_eq_true', Option.isSome_iff_exists] at h
    obtain ⟨⟨c, hc⟩, hn⟩ := h
    exact run_callFunc hf hc hn args
  · cases h
theorem ex_call {f : FuncId} (hf : goFn P f = true) {xs : List Operand} {vs : List Value} {ats : Array TypeId} (hx : evs l xs = some vs) :
    Ex P l (.call { callee := .value (.func f), args := xs.toArray, argTypes := ats }) ty w (.enter f vs.toArray) w := fun _ _ _ _ => by
  have hr : rho l (.func f) = .func (.func f) #[] #[] := rfl
  simp [execOp, resolve, Deferred.ofValue, invoke, rhos_of hx, run_goFn hf, hr]
theorem ex_call_val {f : FuncId} (hf : goFn P f = true) {xs : List Operand} {vs cap : List Value} {ats : Array TypeId} (hc : ev l x = some (.func (.func f) #[] cap.toArray)) (hx : evs l xs = some vs) :
    Ex P l (.call { callee := .value x, args := xs.toArray, argTypes := ats }) ty w (.enter f (vs ++ cap).toArray) w := fun _ _ _ _ => by
  simp [execOp, resolve, Deferred.ofValue, invoke, rhos_of hx, run_goFn hf, rho_of hc]

/-! ### Types' facts, each a closed reckoning over the program's tables -/
/-- The zero cells, the number of cells, the bytes of a type. -/
def tyOf (P : Program) (t : TypeId) : Option (List Value × Nat × Nat × Bool) :=
  match P.info? t, P.underlying t with
  | some i, some d => match i.zero with
    | some z => if z.cells.toList.length = i.size then some (z.cells.toList, i.size, i.bytes, match d with | .struct _ | .array _ _ => true | _ => false) else none
    | none => none
  | _, _ => none
structure TyOk (P : Program) (t : TypeId) (zs : List Value) (sz bytes : Nat) (agg : Bool) : Prop where
  len : zs.length = sz
  ex : ∃ i z d, P.info? t = some i ∧ i.zero = some z ∧ z.cells.toList = zs ∧ i.size = sz ∧ i.bytes = bytes ∧ P.underlying t = some d ∧ agg = (match d with | .struct _ | .array _ _ => true | _ => false)
theorem tyOk {t : TypeId} {zs : List Value} {sz bytes : Nat} {agg : Bool} (h : tyOf P t = some (zs, sz, bytes, agg)) : TyOk P t zs sz bytes agg := by
  unfold tyOf at h
  split at h
  · rename_i i d hi hd
    split at h
    · rename_i z hz
      split at h
      · rename_i hl
        simp only [Option.some.injEq, Prod.mk.injEq] at h
        exact ⟨by rw [← h.1, ← h.2.1]; exact hl, i, z, d, hi, hz, h.1, h.2.1, h.2.2.1, hd, h.2.2.2.symm⟩
      · cases h
    · cases h
  · cases h
def fieldOf (P : Program) (t : TypeId) (f : Nat) : Option (Nat × TypeId) :=
  match P.underlying t with
  | some (.struct fs) => match fs[f]? with
    | some fd => match P.info? fd.type with
      | some i => if i.size = 0 then none else some (fd.offset, fd.type)
      | none => none
    | none => none
  | _ => none
variable {zs : List Value} {sz bytes : Nat} {agg : Bool}
theorem run_isAgg (h : TyOk P t zs sz bytes agg) : (isAgg t).run P w = .ok agg w := by
  obtain ⟨i, z, d, hi, hz, _, _, _, hd, rfl⟩ := h.ex
  simp only [isAgg, Sem.run_bind, run_underlying hd, Result.andThen_ok]
  cases d <;> rfl
theorem run_sizeOf (h : TyOk P t zs sz bytes agg) : (sizeOf t).run P w = .ok sz w := by
  obtain ⟨i, z, d, hi, hz, _, rfl, _, hd, rfl⟩ := h.ex
  simp [sizeOf, typeInfo, hi]
theorem run_loadVar1 (h : TyOk P t zs sz bytes false) {p : Addr} (hc : w.cell? p = some v) : (loadVar t p).run P w = .ok v w := by
  simp only [loadVar, Sem.run_bind, run_isAgg h, Result.andThen_ok]
  simp [load, Sem.run, hc]
theorem run_loadVarN (h : TyOk P t zs sz bytes true) {p : Addr} {vs : List Value} (hl : vs.length = sz) (hc : ∀ j u, vs[j]? = some u → w.cell? (p.add j) = some u) : (loadVar t p).run P w = .ok (.agg vs.toArray) w := by
  have hr := run_loadCells_list (P := P) w p vs hc
  simp [loadVar, run_isAgg h, run_sizeOf h, ← hl, hr]
theorem ex_load (h : TyOk P t zs sz bytes false) {p : Addr} (hx : ev l x = some (.pointer (some p))) (hc : w.cell? p = some v) : Ex P l (.load t x) ty w (.value v) w := fun _ _ _ _ => by
  simp [execOp, rho_of hx, Instr.loadAt, Instr.sureAddr, run_loadVar1 h hc]
theorem ex_loadN (h : TyOk P t zs sz bytes true) {p : Addr} (hx : ev l x = some (.pointer (some p))) {vs : List Value} (hl : vs.length = sz) (hc : ∀ j u, vs[j]? = some u → w.cell? (p.add j) = some u) : Ex P l (.load t x) ty w (.value (.agg vs.toArray)) w := fun _ _ _ _ => by
  simp [execOp, rho_of hx, Instr.loadAt, Instr.sureAddr, run_loadVarN h hl hc]
theorem ex_fieldAddr {f off : Nat} {ft : TypeId} (h : fieldOf P t f = some (off, ft)) {b o : Nat} (hx : ev l x = some (.pointer (some ⟨b, o, none⟩))) : Ex P l (.fieldAddr t x f) ty w (.value (.pointer (some ⟨b, o + off, none⟩))) w := fun _ _ _ _ => by
  unfold fieldOf at h
  split at h
  · rename_i fs hu
    split at h
    · rename_i fd hfd
      split at h
      · rename_i i hi
        split at h
        · cases h
        · rename_i hsz
          simp only [Option.some.injEq, Prod.mk.injEq] at h
          obtain ⟨rfl, rfl⟩ := h
          simp [execOp, rho_of hx, Instr.fieldAt, run_underlying hu, hfd, Instr.sureAddr, fieldPlace, sizeOf, typeInfo, hi, hsz, Addr.add_lit]
      · cases h
    · cases h
  · cases h
/-- An index into a slice. -/
theorem ex_index {e : TypeId} (ht : P.underlying t = some (.slice e)) (he : TyOk P e zs sz bytes agg) {a : Addr} {len c : Nat} (hx : ev l x = some (.slice (some a) len c)) (hy : ev l y = some (.int k n)) (h0 : 0 ≤ n) (h1 : n < len) :
    Ex P l (.indexAddr t x y) ty w (.value (.pointer (some (a.add (n.toNat * sz))))) w := fun _ _ _ _ => by
  have h2 : 0 ≤ n ∧ n < len := ⟨h0, h1⟩
  simp [execOp, rho_of hx, rho_of hy, Instr.indexAt, asIntOf, run_underlying ht, run_sizeOf he, h2]
/-- An index that is a natural number. -/
theorem ex_idx {e : TypeId} (ht : P.underlying t = some (.slice e)) (he : TyOk P e zs sz bytes agg) {a : Addr} {len c i o : Nat} (hx : ev l x = some (.slice (some a) len c)) (hy : ev l y = some (.int k n)) (hn : n = (i : Int)) (hi : i < len) (ho : i * sz = o) :
    Ex P l (.indexAddr t x y) ty w (.value (.pointer (some (a.add o)))) w := by
  subst hn
  have h := ex_index (ty := ty) (w := w) ht he hx hy (by omega) (by omega)
  rw [Int.toNat_natCast, ho] at h
  exact h
/-! Cuts of a slice. -/
def cutAddr (A : Option Addr) (lo mx sz : Nat) : Option Addr := if mx = lo then A else A.map (·.add (lo * sz))
theorem ex_cutHi {e : TypeId} (ht : P.underlying t = some (.slice e)) (he : TyOk P e zs sz bytes agg) {A : Option Addr} {len c : Nat} {hi : Int} {kh : IntKind} {xh : Operand}
    (hx : ev l x = some (.slice A len c)) (hh : ev l xh = some (.int kh hi)) (h : 0 ≤ hi ∧ hi ≤ c) :
    Ex P l (.slice t x none (some xh) none) ty w (.value (.slice A hi.toNat c)) w := fun _ _ _ _ => by
  obtain ⟨b, rfl⟩ := Int.eq_ofNat_of_zero_le (show 0 ≤ hi by omega)
  have h2 : b ≤ c := by omega
  simp [execOp, rho_of hx, rho_of hh, Instr.sliceAt, Instr.slice, run_underlying ht, run_sizeOf he, Instr.sliceBounds, Instr.sliceBound, asIntOf, h2, Addr.add_zero']
theorem ex_cutLo {e : TypeId} (ht : P.underlying t = some (.slice e)) (he : TyOk P e zs sz bytes agg) {A : Option Addr} {len c : Nat} {lo : Int} {kl : IntKind} {xl : Operand}
    (hx : ev l x = some (.slice A len c)) (hl : ev l xl = some (.int kl lo)) (h : 0 ≤ lo ∧ lo ≤ len) :
    Ex P l (.slice t x (some xl) none none) ty w (.value (.slice (cutAddr A lo.toNat c sz) (len - lo.toNat) (c - lo.toNat))) w := fun _ _ _ _ => by
  obtain ⟨a, rfl⟩ := Int.eq_ofNat_of_zero_le (show 0 ≤ lo by omega)
  have h3 : a ≤ len := by omega
  simp [execOp, rho_of hx, rho_of hl, Instr.sliceAt, Instr.slice, run_underlying ht, run_sizeOf he, Instr.sliceBounds, Instr.sliceBound, asIntOf, h3, cutAddr]
/-! Equality. -/
theorem ex_eql_of {u v : Value} {b : Bool} (hx : ev l x = some u) (hy : ev l y = some v) (hg : eqGuard .eql t x y u v = pure ()) (hb : binOp .eql t u v = (do pure (.bool (← Op.equal t u v)))) (h : ∀ d, (Op.equalIn (d + 1) t u v).run P w = .ok b w) :
    Ex P l (.binOp .eql t x y t') ty w (.value (.bool b)) w := fun _ _ _ _ => by
  have he : (Op.equal t u v).run P w = .ok b w := h 9999
  simp only [execOp, rho_of hx, rho_of hy, hb, hg]
  simp [he]
theorem ex_neq_of {u v : Value} {b : Bool} (hx : ev l x = some u) (hy : ev l y = some v) (hg : eqGuard .neq t x y u v = pure ()) (hb : binOp .neq t u v = (do pure (.bool (!(← Op.equal t u v))))) (h : ∀ d, (Op.equalIn (d + 1) t u v).run P w = .ok b w) :
    Ex P l (.binOp .neq t x y t') ty w (.value (.bool (!b))) w := fun _ _ _ _ => by
  have he : (Op.equal t u v).run P w = .ok b w := h 9999
  simp only [execOp, rho_of hx, rho_of hy, hb, hg]
  simp [he]
theorem eqIn_slice_nil {e : TypeId} (ht : P.underlying t = some (.slice e)) (A : Option Addr) (n c : Nat) (d : Nat) : (Op.equalIn (d + 1) t (.slice A n c) (.slice none 0 0)).run P w = .ok (decide (A = none)) w := by
  cases A <;> simp [Op.equalIn, run_underlying ht]
theorem eqIn_ptr_nil {e : TypeId} (ht : P.underlying t = some (.pointer e)) (A : Option Addr) (d : Nat) : (Op.equalIn (d + 1) t (.pointer A) (.pointer none)).run P w = .ok (decide (A = none)) w := by
  cases A <;> simp [Op.equalIn, run_underlying ht]
theorem ex_eql_nil_slice {e : TypeId} (ht : P.underlying t = some (.slice e)) {A : Option Addr} {len c : Nat} (hx : ev l x = some (.slice A len c)) :
    Ex P l (.binOp .eql t x (.const (.slice none 0 0)) t') ty w (.value (.bool (decide (A = none)))) w :=
  ex_eql_of hx rfl rfl rfl (eqIn_slice_nil ht A len c)
theorem ex_eql_nil_ptr {e : TypeId} (ht : P.underlying t = some (.pointer e)) {A : Option Addr} (hx : ev l x = some (.pointer A)) :
    Ex P l (.binOp .eql t x (.const (.pointer none)) t') ty w (.value (.bool (decide (A = none)))) w :=
  ex_eql_of hx rfl rfl rfl (eqIn_ptr_nil ht A)
theorem ex_neq_nil_ptr {e : TypeId} (ht : P.underlying t = some (.pointer e)) {A : Option Addr} (hx : ev l x = some (.pointer A)) :
    Ex P l (.binOp .neq t x (.const (.pointer none)) t') ty w (.value (.bool (decide (¬ A = none)))) w := by
  rw [decide_not]; exact ex_neq_of hx rfl rfl rfl (eqIn_ptr_nil ht A)
end ex
end Go.Proofs.YtjoeklkmnfaabaaGreat
/-
  Regions that draw their order: first operations that only read, then some in one order, at last again operations that only read, in whatever order.
-/
namespace Go.Proofs.YtjoeklkmnfaabaaGreat
open Go Go.RowKit

section
variable {P : Program} {ops : Array Oper} {md : Region.Mode} {w : World} {n m : Nat} {listed : Array Bool}
theorem not_ready_of {t j : Nat} (hw : Region.waitsFor md ops t j = true) (hj : listed.getD j true = false) : t ∉ Region.ready md ops listed := by
  intro hr
  obtain ⟨_, ot, hot, hall⟩ := mem_ready.1 hr
  obtain ⟨o', ho', e, he, hb, hon⟩ := Region.waitsFor_spec hw
  have : o' = ot := Option.some.inj (ho'.symm.trans hot)
  subst this
  have h2 := hall e he hb
  rw [hon, getD_both hj] at h2
  cases h2
theorem sink_blocks (hs : Region.sinkB md ops n = true) (inv : HeadInv md ops n listed) (hn : n < ops.size) : ∀ (d i : Nat), n - i ≤ d → i < n → listed.getD i true = false → n ∉ Region.ready md ops listed
  | 0, i, h, hi, _ => by omega
  | d + 1, i, h, hi, hun => by
    obtain ⟨j, hj, hj2⟩ := List.any_eq_true.1 (List.all_eq_true.1 hs i (List.mem_range.2 hi))
    simp only [Bool.and_eq_true, decide_eq_true_eq] at hj2
    have hjle : j < n + 1 := List.mem_range.1 hj
    by_cases hjn : j = n
    · subst hjn; exact not_ready_of hj2.2 hun
    · refine sink_blocks hs inv hn d j (by omega) (by omega) ?_
      cases hl : listed.getD j false with
      | false => exact getD_in (by rw [inv.size]; omega) hl
      | true =>
        obtain ⟨oj, hoj, e, he, hb, hon⟩ := Region.waitsFor_spec hj2.2
        have h2 := inv.closed j oj hoj hl e he hb
        rw [hon, getD_both hun] at h2
        cases h2
theorem wp_alt {o : Oper} {a : Act} {K : Act → World → Prop} {Q1 Q2 : Exit → Act → World → Prop} (hq : ∀ e a w, e ≠ .normal → Q1 e a w → Q2 e a w) (hh : o.wp P a w K Q1) : o.wp P a w K Q2 := by
  unfold Oper.wp at *
  generalize (execOp a.eval o).run P w = r at *
  cases r with
  | ok n w' =>
    cases n <;> simp only [Oper.upon] at hh ⊢ <;>
      first
        | exact hh
        | exact Calls.mono hh (fun e w'' he => by
            cases e with
            | returned v => exact he
            | panicked c => exact hq _ _ _ (by simp) he
            | outgrown => exact (let ⟨a, w, h⟩ := he; ⟨a, w, hq _ _ _ (by simp) h⟩))
  | halt x w' =>
    cases x <;> simp only [Oper.upon] at hh ⊢ <;> first | exact hq _ _ _ (by simp) hh | exact hh
end
/-- What an operation yields, and leaves the world as it is: by itself, or by a call that only reads. -/
def Gives (P : Program) (ρ : Operand → Value) (o : Oper) (w : World) (v : Value) : Prop :=
  (execOp ρ o).run P w = .ok (.value v) w ∨ ∃ f args, (execOp ρ o).run P w = .ok (.enter f args) w ∧ Calls P f args w fun e w' => e = .returned v ∧ w' = w
def GivesIf (P : Program) (ops : Array Oper) (S : World → Prop) (o : Oper) (v : Value) (a : Act) : Prop :=
  (Region.wanted o (yielded ops a.tmps) = true ∧ ∀ w, S w → Gives P a.eval o w v) ∨ (Region.wanted o (yielded ops a.tmps) = false ∧ v = undef)
section gives
variable {P : Program} {ops : Array Oper} {Q : Exit → Act → World → Prop} {md : Region.Mode} {S : World → Prop}
theorem GivesIf.wpOp {i : Nat} {o : Oper} {v : Value} {a : Act} (hi : ops[i]? = some o) (hy : GivesIf P ops S o v a) {K : Act → World → Prop} {w : World} (hS : S w) (h : K (a.put o.dst v) w) : wpOp P ops Q i K a w := by
  unfold Go.wpOp
  simp only [hi]
  rcases hy with ⟨hw, hv⟩ | ⟨hw, rfl⟩
  · simp only [hw, if_true]
    refine .inl ?_
    unfold Oper.wp
    rcases hv w hS with h1 | ⟨f, args, h1, h2⟩
    · rw [h1]; exact h
    · rw [h1]
      refine Calls.mono h2 ?_
      rintro e w' ⟨rfl, rfl⟩
      exact h
  · simp only [hw, Bool.false_eq_true, if_false]; exact h
theorem GivesIf.of_same {o : Oper} {v : Value} {a a' : Act} (hy : GivesIf P ops S o v a) (he : execOp a'.eval o = execOp a.eval o)
    (hw : Region.wanted o (yielded ops a'.tmps) = Region.wanted o (yielded ops a.tmps)) : GivesIf P ops S o v a' := by
  unfold GivesIf Gives at *
  rw [he, hw]
  exact hy
theorem wpOp_putG {j : Nat} {oi oj : Oper} {v : Value} (hj : ops[j]? = some oj) (hap : oi.apart ops oj = true)
    (hsi : ∀ cs b, oi.op ≠ .select cs b) (hsj : ∀ cs b, oj.op ≠ .select cs b)
    (hQ : ∀ c a w, Q (.panic c) (a.put oi.dst v) w → Q (.panic c) a w) {K : Act → World → Prop} {a : Act} {w : World}
    (hy : GivesIf P ops S oi v a) (h : wpOp P ops Q j K (a.put oi.dst v) w) :
    wpOp P ops Q j (fun a' w' => GivesIf P ops S oi v a' ∧ K (a'.put oi.dst v) w') a w := by
  obtain ⟨h1, h2, h3⟩ := Oper.apart_spec hap
  have keep : ∀ (a : Act), GivesIf P ops S oi v a → ∀ u, GivesIf P ops S oi v (a.put oj.dst u) := fun a hy u =>
    hy.of_same (execOp_put oi hsi a oj.dst u h3) (wanted_put oi a oj.dst u h3)
  have keepD : ∀ d, GivesIf P ops S oi v { a with defers := d :: a.defers } := fun d => hy.of_same rfl rfl
  unfold wpOp at *
  simp only [hj] at *
  rw [wanted_put oj a oi.dst v h1] at h
  split
  · rename_i hw
    simp only [hw, if_true] at h
    rcases h with h | ⟨hasks, hlets⟩
    case inr => exact .inr ⟨by unfold Oper.asks at *; rw [execOp_put oj hsj a oi.dst v h1] at hasks; exact hasks, hlets⟩
    refine .inl ?_
    unfold Oper.wp at *
    rw [execOp_put oj hsj a oi.dst v h1] at h
    generalize (execOp a.eval oj).run P w = r at *
    cases r with
    | ok n w' =>
      cases n <;> simp only [Oper.upon] at h ⊢
      case value u => exact ⟨keep a hy u, by rw [← Act.put_comm a v u h2]; exact h⟩
      case skip => exact ⟨keep a hy _, by rw [← Act.put_comm a v undef h2]; exact h⟩
      case defer d =>
        refine ⟨keep _ (keepD d) _, ?_⟩
        rw [← Act.put_comm _ v undef h2, ← Act.put_defers]
        exact h
      case enter f args =>
        refine Calls.mono h fun e w'' he => ?_
        cases e with
        | returned u => exact ⟨keep a hy u, by rw [← Act.put_comm a v u h2]; exact he⟩
        | panicked c => exact hQ _ _ _ he
        | outgrown => exact he
      case row row args => exact Rows.mono h fun u w'' he => ⟨keep a hy u, by rw [← Act.put_comm a v u h2]; exact he⟩
    | halt x w' =>
      cases x <;> simp only [Oper.upon] at h ⊢
      case panic u => exact hQ _ _ _ h
  · rename_i hw
    simp only [hw] at h
    exact ⟨keep a hy _, by rw [← Act.put_comm a v undef h2]; exact h⟩
end gives
/-! A region that draws its order, where operations that yield the same in whatever world lie between others that have one order. -/
def putL (l : List Value) : Option Tmp → Value → List Value
  | some d, v => l.set d v
  | none, _ => l
section mix
variable {P : Program} {ds : List Deferred} {all : List Oper} {S : World → Prop} {K : List Value → World → Prop} {l : List Value} {w : World} {op : Op} {ty : TypeId} {pos : String} {af : Array Edge} {d : Tmp} {v : Value} {o : Oper} {i : Nat} {s : List (Bool × Nat)}
/-- One operation that yields the same in whatever world that is so. -/
def Mix1 (P : Program) (all : List Oper) (S : World → Prop) (K : List Value → World → Prop) (o : Oper) (l : List Value) (w : World) : Prop :=
  ∃ v, ((Region.wanted o (yielded all.toArray l.toArray) = true ∧ ∀ w', S w' → Gives P (rho l) o w' v) ∨ (Region.wanted o (yielded all.toArray l.toArray) = false ∧ v = undef)) ∧ K (putL l o.dst v) w
theorem mix1_val (hx : ∀ w, S w → Ex P l op ty w (.value v) w) (h : K (l.set d v) w) : Mix1 P all S K ⟨some d, op, ty, pos, af, none⟩ l w := ⟨v, .inl ⟨rfl, fun w' hw => .inl (hx w' hw _ _ _ _)⟩, h⟩
theorem mix1_yes {dst : Option Tmp} {j : Nat} {b : Bool} (hg : yes all l j = some b) (h : Mix1 P all S K ⟨dst, op, ty, pos, af, none⟩ l w) : Mix1 P all S K ⟨dst, op, ty, pos, af, some (j, b)⟩ l w := by
  have e1 : Region.wanted ⟨dst, op, ty, pos, af, some (j, b)⟩ (yielded all.toArray l.toArray) = true := by simp [Region.wanted, yielded_eq, hg]
  obtain ⟨v, ⟨_, hv⟩ | ⟨h1, _⟩, h2⟩ := h
  · exact ⟨v, .inl ⟨e1, hv⟩, h2⟩
  · cases h1
theorem mix1_no {j : Nat} {b : Bool} (hg : (yes all l j == some b) = false) (h : K (l.set d undef) w) : Mix1 P all S K ⟨some d, op, ty, pos, af, some (j, b)⟩ l w :=
  ⟨undef, .inr ⟨by simpa [Region.wanted, yielded_eq] using hg, rfl⟩, h⟩
theorem mix1_true {p : Prop} {_ : Decidable p} (hx : ∀ w, S w → Ex P l op ty w (.value (.bool (decide p))) w) (hp : p) (h : K (l.set d (.bool true)) w) : Mix1 P all S K ⟨some d, op, ty, pos, af, none⟩ l w :=
  mix1_val hx (by rw [decide_eq_true hp]; exact h)
theorem mix1_false {p : Prop} {_ : Decidable p} (hx : ∀ w, S w → Ex P l op ty w (.value (.bool (decide p))) w) (hp : ¬ p) (h : K (l.set d (.bool false)) w) : Mix1 P all S K ⟨some d, op, ty, pos, af, none⟩ l w :=
  mix1_val hx (by rw [decide_eq_false hp]; exact h)
theorem mix1_test {p : Prop} {_ : Decidable p} (hx : ∀ w, S w → Ex P l op ty w (.value (.bool (decide p))) w) (h1 : p → K (l.set d (.bool true)) w) (h2 : ¬ p → K (l.set d (.bool false)) w) : Mix1 P all S K ⟨some d, op, ty, pos, af, none⟩ l w := by
  by_cases hp : p
  · exact mix1_true hx hp (h1 hp)
  · exact mix1_false hx hp (h2 hp)
theorem put_putL (l : List Value) (ds : List Deferred) (dst : Option Tmp) (v : Value) : (⟨l.toArray, ds⟩ : Act).put dst v = ⟨(putL l dst v).toArray, ds⟩ := by
  cases dst with
  | none => rfl
  | some d => exact list_put l ds d v
/-! The same, where the last operation, which waits for all others, may turn what was told. -/
def wpAnyZ (P : Program) (ops : Array Oper) (Q : Exit → Act → World → Prop) (S : World → Prop) (z : Nat) : Nat → Array Bool → Act → World → Prop
  | 0, listed, a, w => Region.ready .any ops listed = [] ∧ Q .normal a w
  | f + 1, listed, a, w => (Region.ready .any ops listed = [] → Q .normal a w) ∧
    ∀ i ∈ Region.ready .any ops listed, wpOp P ops Q i (fun a' w' => (i ≠ z → S w') ∧ wpAnyZ P ops Q S z f (listed.setIfInBounds i true) a' w') a w
theorem any_of_Z {ops : Array Oper} {Q : Exit → Act → World → Prop} {z : Nat} : ∀ (f : Nat) (listed : Array Bool) (a : Act) (w : World), wpAnyZ P ops Q S z f listed a w → wpAny P .any ops Q f listed a w
  | 0, _, _, _, h => h
  | f + 1, _, _, _, h => ⟨h.1, fun i hi => wpOp_mono (fun a' w' h' => any_of_Z f _ a' w' h'.2) (h.2 i hi)⟩
theorem Z_first {ops : Array Oper} {Q : Exit → Act → World → Prop} {z i : Nat} {oi : Oper} {v : Value} (hi : ops[i]? = some oi) (hsel : ∀ (j : Nat) (o : Oper) cs b, ops[j]? = some o → o.op ≠ .select cs b)
    (hQ : ∀ c a w, Q (.panic c) (a.put oi.dst v) w → Q (.panic c) a w) (hs : Region.sinkB .any ops z = true) (hz : z + 1 = ops.size) (hiz : i < z) :
    ∀ (f : Nat) (listed : Array Bool) (a : Act) (w : World), HeadInv .any ops z listed →
      (∀ j oj, ops[j]? = some oj → j ≠ i → listed.getD j true = false → (∀ e ∈ oj.after, Region.binds .any e = true → e.on ≠ i) → oi.apart ops oj = true) →
      i ∈ Region.ready .any ops listed → GivesIf P ops S oi v a → S w →
      wpAnyZ P ops Q S z f (listed.setIfInBounds i true) (a.put oi.dst v) w → wpAnyZ P ops Q S z (f + 1) listed a w := by
  intro f
  induction f with
  | zero =>
    intro listed a w _ _ hr hy hS H
    refine ⟨fun h => (by rw [h] at hr; cases hr), fun j hj => ?_⟩
    by_cases hji : j = i
    · rw [hji]; exact hy.wpOp hi hS ⟨fun _ => hS, H⟩
    · have h1 := ready_mono hj hji
      rw [H.1] at h1
      cases h1
  | succ f ih =>
    intro listed a w inv hfree hr hy hS H
    refine ⟨fun h => (by rw [h] at hr; cases hr), fun j hj => ?_⟩
    by_cases hji : j = i
    · rw [hji]; exact hy.wpOp hi hS ⟨fun _ => hS, H⟩
    · have h1 := H.2 j (ready_mono hj hji)
      obtain ⟨hjun, oj, hoj, hall⟩ := mem_ready.1 hj
      have hiun := (mem_ready.1 hr).1
      have hjz : j ≠ z := by
        intro e
        rw [e] at hj
        exact sink_blocks hs inv (by omega) (z - i) i (Nat.le_refl _) hiz hiun hj
      have hjs := (Array.getElem?_eq_some_iff.1 hoj).1
      have hnot : ∀ e ∈ oj.after, Region.binds .any e = true → e.on ≠ i := fun e he hb heq => by
        have h2 := hall e he hb
        rw [heq, getD_both hiun] at h2
        cases h2
      have h2 := wpOp_putG hoj (hfree j oj hoj hji hjun hnot) (fun cs b => hsel i oi cs b hi) (fun cs b => hsel j oj cs b hoj) hQ hy h1
      refine wpOp_mono (fun a' w' h3 => ⟨h3.2.1, ih (listed.setIfInBounds j true) a' w' (inv.set hj (by omega)) (fun k ok hk hki hun hno => ?_) (ready_mono hr (Ne.symm hji)) h3.1 (h3.2.1 hjz) ?_⟩) h2
      · refine hfree k ok hk hki ?_ hno
        by_cases hjk : j = k
        · rw [← hjk]; exact hjun
        · rw [getD_set_ne true hjk] at hun; exact hun
      · rw [Array.setIfInBounds_comm _ _ hji]
        exact h3.2.2
def MixZ (P : Program) (ds : List Deferred) (all : List Oper) (S : World → Prop) (K : List Value → World → Prop) : List (Bool × Nat) → List Value → World → Prop
  | [], l, w => K l w
  | (true, i) :: s, l, w => ∃ o, all[i]? = some o ∧ Mix1 P all S (MixZ P ds all S K s) o l w
  | (false, i) :: s, l, w => ∃ o, all[i]? = some o ∧ Ops P ds all (fun l' w' => (s ≠ [] → S w') ∧ MixZ P ds all S K s l' w') (fun _ _ _ => False) [o] l w
theorem mixz_nil (h : K l w) : MixZ P ds all S K [] l w := h
theorem mixz_p (ho : all[i]? = some o) (h : Mix1 P all S (MixZ P ds all S K s) o l w) : MixZ P ds all S K ((true, i) :: s) l w := ⟨o, ho, h⟩
theorem mixz_o (ho : all[i]? = some o) (h : Ops P ds all (fun l' w' => (s ≠ [] → S w') ∧ MixZ P ds all S K s l' w') (fun _ _ _ => False) [o] l w) : MixZ P ds all S K ((false, i) :: s) l w := ⟨o, ho, h⟩
/-- The schedule: all but the last are before it. -/
def mixZB (ops : Array Oper) (z : Nat) : List (Bool × Nat) → Array Bool → Bool
  | [], listed => (Region.ready .any ops listed).isEmpty
  | (true, i) :: s, listed => decide (i < z) && (Region.ready .any ops listed).contains i && Region.free .any ops listed i && mixZB ops z s (listed.setIfInBounds i true)
  | (false, i) :: s, listed => ((decide (i < z) && !s.isEmpty) || (decide (i = z) && s.isEmpty)) && decide (Region.ready .any ops listed = [i]) && mixZB ops z s (listed.setIfInBounds i true)
theorem mixz_any {z : Nat} (hsel : Region.noSelect all.toArray = true) (hs : Region.sinkB .any all.toArray z = true) (hz : z + 1 = all.toArray.size) : ∀ (s : List (Bool × Nat)) (listed : Array Bool) (l : List Value) (w : World), (s ≠ [] → HeadInv .any all.toArray z listed) → mixZB all.toArray z s listed = true → (s ≠ [] → S w) → MixZ P ds all S K s l w →
    wpAnyZ P all.toArray (fun e a w' => a.defers = ds ∧ seqQ K (fun _ _ _ => False) e a.tmps.toList w') S z s.length listed ⟨l.toArray, ds⟩ w := by
  intro s
  induction s with
  | nil => intro listed l w _ hB _ h; exact ⟨by simpa [mixZB] using hB, rfl, h⟩
  | cons x s IH =>
    obtain ⟨b, i⟩ := x
    cases b
    · rintro listed l w inv hB hS ⟨o, ho, h⟩
      simp only [mixZB, Bool.and_eq_true, Bool.or_eq_true, decide_eq_true_eq] at hB
      obtain ⟨⟨hiz, hr⟩, hB'⟩ := hB
      have hready : i ∈ Region.ready .any all.toArray listed := by rw [hr]; simp
      have hlast : s ≠ [] → i < z := fun h => by
        rcases hiz with h1 | h1
        · exact h1.1
        · exact absurd (by simpa using h1.2) h
      refine ⟨fun h0 => (by rw [hr] at h0; cases h0), fun k hk => ?_⟩
      have hki : k = i := by rw [hr] at hk; simpa using hk
      rw [hki]
      unfold Ops wpList at h
      unfold wpOp
      rw [List.getElem?_toArray, ho]
      simp only
      have hne : i ≠ z → s ≠ [] := fun h1 => by
        rcases hiz with h2 | h2
        · intro h3; rw [h3] at h2; simp at h2
        · exact absurd h2.1 h1
      have ih : ∀ (a : Act) w', (a.defers = ds ∧ (s ≠ [] → S w') ∧ MixZ P ds all S K s a.tmps.toList w') → ((i ≠ z → S w') ∧ wpAnyZ P all.toArray (fun e a w' => a.defers = ds ∧ seqQ K (fun _ _ _ => False) e a.tmps.toList w') S z s.length (listed.setIfInBounds i true) a w') := by
        rintro ⟨t, d⟩ w' ⟨hd, hS', h2⟩
        simp only at hd
        subst hd
        exact ⟨fun h1 => hS' (hne h1), IH _ _ _ (fun h1 => (inv (by simp)).set hready (hlast h1)) hB' hS' h2⟩
      have hq : ∀ (e : Exit) (a : Act) w', e ≠ .normal → Exit.then (fun (a : Act) w' => a.defers = ds ∧ (s ≠ [] → S w') ∧ MixZ P ds all S K s a.tmps.toList w') (fun _ a _ => a.defers = ds ∧ False) e a w' → (a.defers = ds ∧ seqQ K (fun _ _ _ => False) e a.tmps.toList w') := by
        intro e a w' he h
        cases e <;> first | exact absurd rfl he | exact h.2.elim
      split
      · rename_i hw
        rw [if_pos hw] at h
        rcases h with h | ⟨h1, a1, w1, h2⟩
        · exact .inl (Oper.wp_mono ih (wp_alt hq h))
        · exact .inr ⟨h1, a1, w1, hq _ _ _ (by simp) h2⟩
      · rename_i hw
        rw [if_neg hw] at h
        exact ih _ _ h
    · rintro listed l w inv hB hS ⟨o, ho, v, hv, hK⟩
      simp only [mixZB, Bool.and_eq_true, decide_eq_true_eq] at hB
      obtain ⟨⟨⟨hiz, hr⟩, hf⟩, hB'⟩ := hB
      have hi : all.toArray[i]? = some o := by rw [List.getElem?_toArray]; exact ho
      have hready : i ∈ Region.ready .any all.toArray listed := by simpa using hr
      refine Z_first (oi := o) (v := v) hi (Region.noSelect_spec hsel) (fun _ _ _ h => h.2.elim) hs hz hiz s.length listed _ w (inv (by simp)) (Region.free_spec hi hf) hready ?_ (hS (by simp)) ?_
      · rcases hv with ⟨h1, h2⟩ | ⟨h1, h2⟩
        · exact .inl ⟨h1, by rw [rho_eq]; exact h2⟩
        · exact .inr ⟨h1, h2⟩
      · rw [put_putL]
        exact IH _ _ _ (fun _ => (inv (by simp)).set hready hiz) hB' (fun _ => hS (by simp)) hK
theorem run_mixZ {Q : Post} {cs : List Code} {n : Nat} {w0 : World} {SS : List Nat} {es : List Ent} (z : Nat) (s : List (Bool × Nat)) (H : Hp w0 w SS es) (idx : List Nat) (hm : P.follows .mixedOrders = true) (hnd : idx.Nodup)
    (hB : (Region.noSelect all.toArray && decide (s.length = all.length) && decide (z + 1 = all.length) && Region.sinkB .any all.toArray z && mixZB all.toArray z s (Array.replicate all.length false)) = true)
    (h : ∀ w', w' = { w with drawn := w.drawn + 1 } → MixZ P ds all (fun wz => Hp w0 wz SS (idx.map fun i => es.getD i (none, 0, []))) (Run P ds cs Q) s l w') : Run P ds (.region n all.toArray true :: cs) Q l w := by
  simp only [Bool.and_eq_true, decide_eq_true_eq] at hB
  obtain ⟨⟨⟨⟨hsel, hlen⟩, hz⟩, hs⟩, hB⟩ := hB
  show Cd P ds _ _ l w
  unfold Cd
  have inv0 : HeadInv .any all.toArray z (Array.replicate all.toArray.size false) :=
    ⟨by simp, fun j oj _ hl => (by rw [getD_replicate_false] at hl; cases hl), fun t _ ht => getD_in (by simpa using ht) (getD_replicate_false _ _)⟩
  refine Go.wp_mono (Q := fun e a w' => a.defers = ds ∧ seqQ (Run P ds cs Q) (fun _ _ _ => False) e a.tmps.toList w') (wp_region_any hm ?_) ?_
  · have := mixz_any (S := fun wz => Hp w0 wz SS (idx.map fun i => es.getD i (none, 0, []))) (K := Run P ds cs Q) (P := P) (ds := ds) hsel hs (by simpa using hz) s _ l { w with drawn := w.drawn + 1 } (fun _ => by simpa using inv0) hB (fun _ => H.drew.pick idx hnd) (h _ rfl)
    rw [hlen] at this
    have h2 := any_of_Z _ _ _ _ this
    simpa using h2
  · rintro e a w' ⟨hd, h2⟩
    cases e <;> first | exact ⟨hd, h2⟩ | exact h2.elim
end mix
end Go.Proofs.YtjoeklkmnfaabaaGreat
/-
  Operations that make or write memory; how a function begins and ends.
-/
namespace Go.Proofs.YtjoeklkmnfaabaaGreat
open Go Go.RowKit

def putAt (cs : List Value) (o : Nat) (vs : List Value) : List Value := cs.take o ++ vs ++ cs.drop (o + vs.length)
theorem putAt_one {cs : List Value} {o : Nat} {v : Value} (h : o < cs.length) : putAt cs o [v] = cs.set o v := by
  rw [putAt, List.set_eq_take_append_cons_drop, if_pos h]
  simp
theorem fold_set (off : Nat) : ∀ (vs : List Value) (k : Nat) (cs : List Value), off + k + vs.length ≤ cs.length →
    (vs.zipIdx k).foldl (fun (cs : Array Value) (x : Value × Nat) => cs.setIfInBounds (off + x.2) x.1) cs.toArray = (putAt cs (off + k) vs).toArray
  | [], k, cs, _ => by simp [putAt]
  | v :: vs, k, cs, h => by
    simp only [List.length_cons] at h
    simp only [List.zipIdx_cons, List.foldl_cons, List.setIfInBounds_toArray]
    rw [fold_set off vs (k + 1) (cs.set (off + k) v) (by simp; omega)]
    congr 1
    unfold putAt
    rw [List.set_eq_take_append_cons_drop, if_pos (by omega)]
    have e1 : (List.take (off + k) cs ++ v :: List.drop (off + k + 1) cs).take (off + (k + 1)) = cs.take (off + k) ++ [v] := by
      rw [List.take_append, List.length_take, Nat.min_eq_left (by omega), List.take_of_length_le (by simp; omega), show off + (k + 1) - (off + k) = 1 by omega]
      simp
    have e2 : (List.take (off + k) cs ++ v :: List.drop (off + k + 1) cs).drop (off + (k + 1) + vs.length) = cs.drop (off + k + (vs.length + 1)) := by
      rw [List.drop_append, List.length_take, Nat.min_eq_left (by omega), List.drop_of_length_le (by simp; omega), show off + (k + 1) + vs.length - (off + k) = vs.length + 1 by omega]
      simp only [List.drop_succ_cons, List.nil_append, List.drop_drop]
      congr 1
      omega
    rw [e1, e2]
    simp [Nat.add_assoc]
/-- 'fill' over lists. -/
def fillL (place : Nat → Option (Nat × Nat)) : List Value → List (Nat × Value) → Option (List Value)
  | cells, [] => some cells
  | cells, (i, v) :: rest => match place i with
    | none => none
    | some (off, size) => match decide (v.cells.toList.length = size), decide (off + v.cells.toList.length ≤ cells.length) with
      | true, true => fillL place (putAt cells off v.cells.toList) rest
      | _, _ => none
theorem fill_of (place : Nat → Option (Nat × Nat)) : ∀ (vs : List (Nat × Value)) (cells cs : List Value), fillL place cells vs = some cs → Instr.fill place cells.toArray vs = some cs.toArray
  | [], cells, cs, h => by simp [fillL] at h; simp [Instr.fill, h]
  | (i, v) :: rest, cells, cs, h => by
    unfold fillL at h
    unfold Instr.fill
    cases hp : place i with
    | none => rw [hp] at h; simp at h
    | some x =>
      obtain ⟨off, size⟩ := x
      rw [hp] at h
      simp only at h ⊢
      split at h
      · rename_i h1 h2
        simp only [decide_eq_true_eq, Array.length_toList] at h1 h2
        rw [if_neg (by simp; omega)]
        have hz : v.cells.zipIdx.foldl (fun (cs : Array Value) (x : Value × Nat) => cs.setIfInBounds (off + x.2) x.1) cells.toArray = (putAt cells off v.cells.toList).toArray := by
          have := fold_set off v.cells.toList 0 cells (by simpa using h2)
          rw [Nat.add_zero] at this
          rw [← this, ← Array.foldl_toList]
          congr 1
          simp
        have ih := fill_of place rest _ _ h
        rw [← hz] at ih
        exact ih
      · cases h
def initL (zs : List Value) (n : Nat) : List Value := (List.replicate n zs).flatten
theorem initL_length (zs : List Value) (n : Nat) : (initL zs n).length = n * zs.length := by simp [initL]
theorem initL_get (zs : List Value) : ∀ (n i : Nat), i < n * zs.length → (initL zs n)[i]? = zs[i % zs.length]?
  | 0, i, h => by simp at h
  | n + 1, i, h => by
    have e : initL zs (n + 1) = zs ++ initL zs n := by simp [initL, List.replicate_succ]
    rw [e]
    by_cases hi : i < zs.length
    · rw [List.getElem?_append_left hi, Nat.mod_eq_of_lt hi]
    · have h2 : i - zs.length < n * zs.length := by rw [Nat.succ_mul] at h; omega
      rw [List.getElem?_append_right (by omega), initL_get zs n _ h2]
      congr 1
      rw [Nat.mod_eq_sub_mod (a := i) (by omega)]
theorem init_eq (zs : List Value) (n : Nat) : (Array.range (n * zs.length)).map (zs.toArray[· % zs.toArray.size]!) = (initL zs n).toArray := by
  apply Array.ext
  · simp [initL_length]
  · intro i h1 h2
    simp only [Array.size_map, Array.size_range] at h1
    have hg := initL_get zs n i h1
    have hpos : 0 < zs.length := by
      rcases Nat.eq_zero_or_pos zs.length with h0 | h0
      · rw [h0] at h1; omega
      · exact h0
    have hlt := Nat.mod_lt i hpos
    have h3 : i < (initL zs n).length := by simpa using h2
    rw [List.getElem?_eq_getElem h3, List.getElem?_eq_getElem hlt] at hg
    simp only [Option.some.injEq] at hg
    simp only [Array.getElem_map, Array.getElem_range, List.getElem_toArray, hg, List.size_toArray]
    rw [getElem!_pos zs.toArray _ (by simpa using hlt)]
    simp

section mk
variable {P : Program} {ds : List Deferred} {Q : Post} {K : List Value → World → Prop} {all os : List Oper} {l : List Value} {w0 w : World} {S : List Nat} {es : List Ent} {ty t : TypeId} {pos : String} {af : Array Edge} {d : Tmp} {v : Value}
  {x y z : Operand} {zs : List Value} {sz bytes : Nat} {agg : Bool}
theorem run_zeroValue (h : TyOk P t zs sz bytes agg) : ∃ z, z.cells.toList = zs ∧ ∀ w, (zeroValue t).run P w = .ok z w := by
  obtain ⟨i, z, d, hi, hz, hzs, _, _, hd, _⟩ := h.ex
  exact ⟨z, hzs, fun w => by simp [zeroValue, typeInfo, hi, hz]⟩
/-- A new variable: zero. -/
theorem ops_alloc (h : TyOk P t zs sz bytes agg) (H : Hp w0 w S es)
    (k : ∀ w' g, Hp w0 w' S (es ++ [(some g, t, zs)]) → g = w.heap.size → Ops P ds all K Q os (l.set d (.pointer (some ⟨g, 0, none⟩))) w') : Ops P ds all K Q (⟨some d, .alloc t, ty, pos, af, none⟩ :: os) l w := by
  obtain ⟨z, hz, hr⟩ := run_zeroValue h
  have H' := H.alloc t zs
  refine ops_val (w' := w.alloc (.cells zs.toArray t)) ?_ (k _ _ H' rfl)
  intro _ _ _ _
  simp [execOp, Instr.alloc, hr, newVar, newRow, newObj, Sem.run]
  rw [← hz]
/-- A new variable that holds a value. -/
theorem ops_box (hx : ev l x = some v) {vs : List Value} (hv : v.cells = vs.toArray) (H : Hp w0 w S es)
    (k : ∀ w' g, Hp w0 w' S (es ++ [(some g, t, vs)]) → g = w.heap.size → Ops P ds all K Q os (l.set d (.pointer (some ⟨g, 0, none⟩))) w') : Ops P ds all K Q (⟨some d, .box t x, ty, pos, af, none⟩ :: os) l w := by
  have H' := H.alloc t vs
  refine ops_val (w' := w.alloc (.cells vs.toArray t)) ?_ (k _ _ H' rfl)
  intro _ _ _ _
  simp [execOp, Instr.box, rho_of hx, newVar, newRow, newObj, Sem.run, hv]
theorem run_storeAt (ht : TyOk P t zs sz bytes agg) (H : Hp w0 w S es) {i g o : Nat} {T : TypeId} {cs vs : List Value} (hi : es[i]? = some (some g, T, cs)) (hv : v.cells = vs.toArray) (hl : vs.length = sz) (hfit : o + vs.length ≤ cs.length) (h1 : vs.all (·.oneCell') = true) :
    (Instr.storeAt t (.pointer (some ⟨g, o, none⟩)) v).run P w = .ok () (w.setRow g (putAt cs o vs).toArray) := by
  have hs := run_storeCells_at (P := P) g o T vs 0 cs.toArray w (H.at hi) (by simpa using hfit) (by simpa using h1)
  simp only [Nat.add_zero] at hs
  simp [Instr.storeAt, Instr.sureAddr, storeVar, run_sizeOf ht, hv, hl, hs, putAt]
theorem ops_store (ht : TyOk P t zs sz bytes agg) (H : Hp w0 w S es) (i : Nat) {g o : Nat} {T : TypeId} {cs vs : List Value} (hx : ev l x = some (.pointer (some ⟨g, o, none⟩))) (hy : ev l y = some v) (hi : es[i]? = some (some g, T, cs))
    (hv : v.cells = vs.toArray) (hl : vs.length = sz) (hfit : o + vs.length ≤ cs.length) (h1 : vs.all (·.oneCell') = true)
    (k : ∀ w', Hp w0 w' S (es.set i (some g, T, putAt cs o vs)) → Ops P ds all K Q os l w') : Ops P ds all K Q (⟨none, .store t x y, ty, pos, af, none⟩ :: os) l w := by
  refine ops_skip (w' := w.setRow g (putAt cs o vs).toArray) ?_ (k _ (H.setRow hi _))
  intro _ _ _ _
  simp [execOp, rho_of hx, rho_of hy, run_storeAt ht H hi hv hl hfit h1]
/-- One cell. -/
theorem ops_store1 (ht : TyOk P t zs 1 bytes agg) (H : Hp w0 w S es) (i : Nat) {g o : Nat} {T : TypeId} {cs : List Value} (hx : ev l x = some (.pointer (some ⟨g, o, none⟩))) (hy : ev l y = some v) (hi : es[i]? = some (some g, T, cs))
    (hv : v.cells = [v].toArray) (hfit : o < cs.length) (h1 : v.oneCell' = true)
    (k : ∀ w', Hp w0 w' S (es.set i (some g, T, cs.set o v)) → Ops P ds all K Q os l w') : Ops P ds all K Q (⟨none, .store t x y, ty, pos, af, none⟩ :: os) l w := by
  refine ops_store ht H i hx hy hi hv rfl (by simpa using Nat.succ_le_of_lt hfit) (by simp [h1]) ?_
  rw [putAt_one hfit]
  exact k
/-- A slice written out. -/
def partVals (l : List Value) : List (Nat × Operand) → Option (List (Nat × Value))
  | [] => some []
  | (i, x) :: r => match ev l x, partVals l r with
    | some v, some vs => some ((i, v) :: vs)
    | _, _ => none
theorem partVals_eq : ∀ {ps : List (Nat × Operand)} {vs : List (Nat × Value)}, partVals l ps = some vs → ps.map (fun (i, x) => (i, rho l x)) = vs
  | [], vs, h => by simp [partVals] at h; simp [h]
  | (i, x) :: r, vs, h => by
    simp only [partVals] at h
    split at h
    · rename_i v us hv hus
      simp only [Option.some.injEq] at h
      subst h
      simp [rho_of hv, partVals_eq hus]
    · cases h
theorem ops_buildSlice {e : TypeId} (ht : P.underlying t = some (.slice e)) (he : TyOk P e zs sz bytes agg) (H : Hp w0 w S es) {n : Nat} {ps : List (Nat × Operand)} {vs : List (Nat × Value)} {cs : List Value} (hp : partVals l ps = some vs)
    (hn : n * sz ≤ 16777216) (hf' : fillL (fun i => some (i * sz, sz)) (initL zs n) vs = some cs)
    (k : ∀ w' g, Hp w0 w' S (es ++ [(some g, e, cs)]) → g = w.heap.size → Ops P ds all K Q os (l.set d (.slice (hd (some g)) n n)) w') : Ops P ds all K Q (⟨some d, .buildSlice t n ps.toArray, ty, pos, af, none⟩ :: os) l w := by
  obtain ⟨z, hz, hr⟩ := run_zeroValue he
  have H' := H.alloc e cs
  refine ops_val (w' := w.alloc (.cells cs.toArray e)) ?_ (k _ _ H' rfl)
  intro _ _ _ _
  have hps := partVals_eq hp
  have hnn : ¬ (n * sz > 2 ^ 24) := by omega
  have hzz : z.cells = zs.toArray := by rw [← hz]
  have hf := fill_of _ _ _ _ hf'
  rw [← init_eq, he.len] at hf
  have h00 : ∀ f : Nat → Value, (Array.range 0).map f = #[] := fun f => by rw [Array.range_zero']; simp
  by_cases h0 : n * sz = 0
  · rw [h0, h00] at hf
    simp only [execOp, Instr.buildSlice, Sem.run_bind, run_underlying ht, run_sizeOf he, Result.andThen_ok, List.map_toArray, hps, h0, if_true]
    simp [hf, h00, newRow, newObj, Sem.run]
  · have hcell : z.cells.size = zs.length := by rw [hzz]; simp
    simp only [List.size_toArray] at hf
    simp only [execOp, Instr.buildSlice, Sem.run_bind, run_underlying ht, run_sizeOf he, Result.andThen_ok, List.map_toArray, hps, hnn, h0, if_false, hr, hzz, List.size_toArray, Sem.run_pure, hf]
    simp [newRow, newObj, Sem.run]
/-! append -/
theorem fits {need old bytes : Nat} (h : old < need) (hb : need * bytes ≤ 211106232532992) (h2 : bytes ≤ 1048576) : Builtin.nextslicecap need old * bytes ≤ 281474976710656 := by
  have key : Builtin.nextslicecap need old ≤ need + (need + 768) / 4 + 512 := by
    unfold Builtin.nextslicecap
    split
    · omega
    · split
      · omega
      · rw [growBy_four]
        repeat' split
        all_goals omega
  have h3 : Builtin.nextslicecap need old * bytes ≤ (need + (need + 768) / 4 + 512) * bytes := Nat.mul_le_mul_right _ key
  have h4 : (4 * (need + (need + 768) / 4 + 512)) * bytes ≤ (5 * need + 2816) * bytes := Nat.mul_le_mul_right _ (by omega)
  rw [Nat.mul_assoc, Nat.add_mul (5 * need), Nat.mul_assoc 5] at h4
  omega
theorem run_append (H : Hp w0 w S es) {e : TypeId} (ht : P.underlying t = some (.slice e)) (he : TyOk P e zs sz bytes agg) (hsz : 0 < sz)
    {g : Option Nat} {n cap i : Nat} {xs sp : List Value} (hi : es[i]? = some (g, e, xs ++ sp)) (hn : xs.length = n * sz) (hc : cap * sz ≤ (xs ++ sp).length) (hnc : n ≤ cap) (hcap : g = none → cap = 0)
    {A : Option Addr} {m c : Nat} {ys : List Value} (hr : Rd w A m sz ys) (h1 : ys.all (·.oneCell') = true) (h63 : n + m ≤ 9223372036854775807) (hb : (n + m) * bytes ≤ 211106232532992) (hb2 : bytes ≤ 1048576) :
    ∃ w' g' cap' sp', (Builtin.append_ #[t, t] ty #[.slice (hd g) n cap, .slice A m c]).run P w = .ok (.slice (hd g') (n + m) cap') w' ∧
      Hp w0 w' S (es.set i (g', e, (xs ++ ys) ++ sp')) ∧ cap' * sz ≤ ((xs ++ ys) ++ sp').length ∧ n + m ≤ cap' ∧ (g' = none → cap' = 0) := by
  obtain ⟨inf, z, dd, hinf, hz, hzs, rfl, rfl, _, _⟩ := he.ex
  have hzsz : z.cells.size = zs.length := by rw [← hzs]; simp
  by_cases hroom : n + m ≤ cap
  · -- there is room
    cases g with
    | none =>
      have h0 := hcap rfl
      obtain ⟨rfl, rfl⟩ : n = 0 ∧ m = 0 := by omega
      subst h0
      have hys : ys = [] := List.eq_nil_of_length_eq_zero (by simpa using hr.len)
      have hxs := H.none_ hi
      subst hys
      refine ⟨w, none, 0, sp, ?_, ?_, by simp, by omega, fun _ => rfl⟩
      · cases A with
        | none => simp [hd, Builtin.append_, run_underlying ht, sizeOf, typeInfo, hinf, Builtin.lenOf, Builtin.firstCells]
        | some a =>
          simp [hd, Builtin.append_, run_underlying ht, sizeOf, typeInfo, hinf, Builtin.lenOf, Builtin.firstCells, loadCells, loadCellsFrom]
      · rw [List.append_nil]
        have : es.set i (none, e, xs ++ sp) = es := by
          apply List.ext_getElem?
          intro j
          rw [List.getElem?_set]
          split
          · rename_i hij; subst hij; rw [if_pos (lt_of_get hi)]; exact hi.symm
          · rfl
        rw [this]
        exact H
    | some g =>
      have hrun : (Builtin.append_ #[t, t] ty #[.slice (hd (some g)) n cap, .slice A m c]).run P w =
          .ok (.slice (hd (some g)) (n + m) cap) (w.setRow g (putAt (xs ++ sp) (n * inf.size) ys).toArray) := by
        have hst := run_storeCells_at (P := P) g (n * inf.size) e ys 0 (xs ++ sp).toArray w (H.at hi) (by
          simp only [Nat.add_zero, List.size_toArray]
          rw [hr.len, ← Nat.add_mul]
          exact Nat.le_trans (Nat.mul_le_mul_right _ hroom) hc) (by simpa using h1)
        simp only [Nat.add_zero] at hst
        have hfc : (Builtin.firstCells inf.size m (.slice A m c)).run P w = .ok ys.toArray w := by
          cases A with
          | none =>
            have := hr.nil rfl
            subst this
            have hys : ys = [] := List.eq_nil_of_length_eq_zero (by simpa using hr.len)
            subst hys
            exact run_firstCells_none w _ _ _ _
          | some a => exact run_firstCells_some w inf.size m a m c ys hr.len (hr.cells a rfl)
        simp [hd, Builtin.append_, run_underlying ht, sizeOf, typeInfo, hinf, Builtin.lenOf, hroom, hfc, Addr.add_lit, hst, putAt]
      have hp : putAt (xs ++ sp) (n * inf.size) ys = (xs ++ ys) ++ sp.drop ys.length := by
        rw [putAt, ← hn]
        have e1 : (xs ++ sp).take xs.length = xs := List.take_left
        have e2 : (xs ++ sp).drop (xs.length + ys.length) = sp.drop ys.length := by
          rw [List.drop_append]
          simp
        rw [e1, e2]
      refine ⟨_, some g, cap, sp.drop ys.length, hrun, ?_, ?_, hroom, by simp⟩
      · rw [← hp]; exact H.setRow hi _
      · rw [← hp, putAt]
        have hle : n * inf.size + ys.length ≤ (xs ++ sp).length := by
          rw [hr.len, ← Nat.add_mul]; exact Nat.le_trans (Nat.mul_le_mul_right _ hroom) hc
        simp only [List.length_append, List.length_take, List.length_drop] at hc hle ⊢
        omega
  · -- a new row
    have hold : cap < n + m := by omega
    have hfit := fits hold hb hb2
    have hfo : (Builtin.firstCells inf.size n (.slice (hd g) n cap)).run P w.drew = .ok xs.toArray w.drew := by
      cases g with
      | none =>
        have h0 := hcap rfl
        have hn0 : n = 0 := by omega
        subst hn0
        have hxs : xs = [] := List.eq_nil_of_length_eq_zero (by simpa using hn)
        subst hxs
        exact run_firstCells_none _ _ _ _ _
      | some g =>
        refine run_firstCells_some _ inf.size n ⟨g, 0, none⟩ n cap xs hn ?_
        intro j u hu
        rw [Addr.add_lit, Nat.zero_add]
        exact H.cell hi (by rw [List.getElem?_append_left (lt_of_get hu)]; exact hu)
    have hfc : (Builtin.firstCells inf.size m (.slice A m c)).run P w.drew = .ok ys.toArray w.drew := by
      cases A with
      | none =>
        have := hr.nil rfl
        subst this
        have hys : ys = [] := List.eq_nil_of_length_eq_zero (by simpa using hr.len)
        subst hys
        exact run_firstCells_none _ _ _ _ _
      | some a => exact run_firstCells_some _ inf.size m a m c ys hr.len (fun j u hu => hr.cells a rfl j u hu)
    have hn' : ¬ (n + m ≤ cap) := hroom
    have h63' : ¬ (9223372036854775807 < ((n : Int) + (m : Int))) := by omega
    have h48' : ¬ (281474976710656 < Builtin.nextslicecap (n + m) cap * inf.bytes) := by omega
    have hge := grownCap_ge w (n + m) cap e
    have hrun : (Builtin.append_ #[t, t] ty #[.slice (hd g) n cap, .slice A m c]).run P w =
        .ok (.slice (some ⟨w.heap.size, 0, none⟩) (n + m) (grownCap w (n + m) cap e))
          (w.drew.alloc (.cells ((xs ++ ys) ++ (Builtin.zeroCells z.cells (grownCap w (n + m) cap e - (n + m))).toList).toArray e)) := by
      simp [Builtin.append_, run_underlying ht, sizeOf, typeInfo, zeroValue, hinf, hz, Builtin.lenOf, hn', h63', h48', Question.forced, hfc, hfo, newRow, grownCap]
      congr 2
      apply Array.ext'
      simp
    have H1 : Hp w0 w.drew S es := H.drew
    have H2 := (H1.alloc e ((xs ++ ys) ++ (Builtin.zeroCells z.cells (grownCap w (n + m) cap e - (n + m))).toList)).pick
      ((List.range es.length).set i es.length) (by
        rw [List.nodup_iff_pairwise_ne, List.pairwise_iff_getElem]
        intro a b ha hb hab
        simp only [List.length_set, List.length_range] at ha hb
        rw [List.getElem_set, List.getElem_set]
        split <;> split <;> simp <;> omega)
    have hpick : (((List.range es.length).set i es.length).map fun j => (es ++ [(some w.drew.heap.size, e, (xs ++ ys) ++ (Builtin.zeroCells z.cells (grownCap w (n + m) cap e - (n + m))).toList)]).getD j (none, 0, [])) =
        es.set i (some w.heap.size, e, (xs ++ ys) ++ (Builtin.zeroCells z.cells (grownCap w (n + m) cap e - (n + m))).toList) := by
      apply List.ext_getElem?
      intro j
      rw [List.getElem?_map, List.getElem?_set, List.getElem?_set]
      by_cases hij : i = j
      · subst hij
        have hlt := lt_of_get hi
        simp [hlt]
      · simp only [hij, if_false]
        rcases Nat.lt_or_ge j es.length with hj | hj
        · rw [List.getElem?_range hj, Option.map_some, List.getD_eq_getElem?_getD, List.getElem?_append_left hj, List.getElem?_eq_getElem hj]
          rfl
        · rw [List.getElem?_eq_none (by simpa using hj), List.getElem?_eq_none hj]
          rfl
    rw [hpick] at H2
    refine ⟨_, some w.heap.size, _, _, hrun, H2, ?_, hge, by simp⟩
    simp only [List.length_append, hn, hr.len, Array.length_toList, Builtin.zeroCells, Array.size_map, Array.size_range]
    rw [hzsz, he.len, ← Nat.add_mul, ← Nat.add_mul]
    exact Nat.mul_le_mul_right _ (by omega)
theorem ops_append {e : TypeId} (ht : P.underlying t = some (.slice e)) (he : TyOk P e zs sz bytes agg) (hsz : 0 < sz) (H : Hp w0 w S es) (i : Nat)
    {g : Option Nat} {n cap : Nat} {xs sp : List Value} (hx : ev l x = some (.slice (hd g) n cap)) (hi : es[i]? = some (g, e, xs ++ sp)) (hn : xs.length = n * sz) (hc : cap * sz ≤ (xs ++ sp).length) (hnc : n ≤ cap) (hcap : g = none → cap = 0)
    {A : Option Addr} {m c : Nat} {ys : List Value} (hy : ev l y = some (.slice A m c)) (hr : Rd w A m sz ys) (h1 : ys.all (·.oneCell') = true) (h63 : n + m ≤ 9223372036854775807) (hb : (n + m) * bytes ≤ 211106232532992) (hb2 : bytes ≤ 1048576)
    (k : ∀ w' g' cap' sp', Hp w0 w' S (es.set i (g', e, (xs ++ ys) ++ sp')) → cap' * sz ≤ ((xs ++ ys) ++ sp').length → n + m ≤ cap' → (g' = none → cap' = 0) → Ops P ds all K Q os (l.set d (.slice (hd g') (n + m) cap')) w') :
    Ops P ds all K Q (⟨some d, .call { callee := .builtin .append, args := #[x, y], argTypes := #[t, t] }, ty, pos, af, none⟩ :: os) l w := by
  obtain ⟨w', g', cap', sp', hrun, H', h2, h3, h4⟩ := run_append (ty := ty) (c := c) H ht he hsz hi hn hc hnc hcap hr h1 h63 hb hb2
  refine ops_val (w' := w') ?_ (k w' g' cap' sp' H' h2 h3 h4)
  intro _ _ _ _
  simp [execOp, resolve, invoke, builtin, rho_of hx, rho_of hy, hrun]

/-! ### A function's beginning and end -/
/-- What the end of a function's code must show. -/
def fin (P : Program) (fn : Func) (R : Value → World → Prop) : Post
  | .normal, l, w => ∃ v, (results fn l.toArray).run P w = .ok v w ∧ R v w
  | .ret, l, w => ∃ v, (results fn l.toArray).run P w = .ok v w ∧ R v w
  | _, _, _ => False
theorem does_of {f : FuncId} {fn : Func} {c : Code} {args : List Value} {R : Value → World → Prop} {n : Nat} (hf : P.funcs[f]? = some fn) (hn : fn.ntmps = n) (hb : fn.body = some c)
    (h : Run P [] [c] (fin P fn R) (args ++ List.replicate (n - args.length) undef) w) : Does P f args.toArray w R := by
  refine calls_of_wp hf hb ?_
  rw [hn]
  have hl : args.toArray ++ Array.replicate (n - args.toArray.size) undef = (args ++ List.replicate (n - args.length) undef).toArray := by simp
  rw [hl]
  refine Go.wp_mono h ?_
  rintro e ⟨t, d⟩ w' ⟨hd, h2⟩
  cases e with
  | normal => exact (let ⟨v, h3, h4⟩ := h2; ⟨hd, v, h3, v, rfl, h4⟩)
  | ret => exact (let ⟨v, h3, h4⟩ := h2; ⟨hd, v, h3, v, rfl, h4⟩)
  | _ => exact h2.elim
variable {fn : Func} {R : Value → World → Prop} {u v1 v2 v3 : Value} {r1 r2 r3 : Tmp}
theorem fin_ret0 (hr : fn.results = #[]) (h : R (.tuple #[]) w) : fin P fn R .ret l w := ⟨_, results_none hr _ _ _, h⟩
theorem fin_end0 (hr : fn.results = #[]) (h : R (.tuple #[]) w) : fin P fn R .normal l w := ⟨_, results_none hr _ _ _, h⟩
theorem getD_of {l : List Value} {t : Nat} {v : Value} (h : nth l t = some v) : l.toArray.getD t undef = v := by
  rw [nth_eq] at h
  simp [h]
theorem fin_ret1 (hr : fn.results = #[.tmp r1]) (h1 : nth l r1 = some v1) (h : R v1 w) : fin P fn R .ret l w :=
  ⟨_, results_tmp hr _ _ _, by rw [getD_of h1]; exact h⟩
theorem fin_ret2 (hr : fn.results = #[.tmp r1, .tmp r2]) (h1 : nth l r1 = some v1) (h2 : nth l r2 = some v2) (h : R (.tuple #[v1, v2]) w) : fin P fn R .ret l w :=
  ⟨_, results_tmp2 hr _ _ _, by rw [getD_of h1, getD_of h2]; exact h⟩
end mk
end Go.Proofs.YtjoeklkmnfaabaaGreat
/- A frame, brought to the form of a list. Printed by wip/gen/nrm.py. -/
namespace Go.Proofs.YtjoeklkmnfaabaaGreat
open Go
theorem nZ13 {P : Program} {ds : List Deferred} {o : List Oper} {S : World → Prop} {K : List Value → World → Prop} {s : List (Bool × Nat)} {w : World} {a0 a1 a2 a3 a4 a5 a6 a7 a8 a9 a10 a11 a12 : Value} (h : MixZ P ds o S K s [a0, a1, a2, a3, a4, a5, a6, a7, a8, a9, a10, a11, a12] w) : MixZ P ds o S K s [a0, a1, a2, a3, a4, a5, a6, a7, a8, a9, a10, a11, a12] w := h
theorem nZ16 {P : Program} {ds : List Deferred} {o : List Oper} {S : World → Prop} {K : List Value → World → Prop} {s : List (Bool × Nat)} {w : World} {a0 a1 a2 a3 a4 a5 a6 a7 a8 a9 a10 a11 a12 a13 a14 a15 : Value} (h : MixZ P ds o S K s [a0, a1, a2, a3, a4, a5, a6, a7, a8, a9, a10, a11, a12, a13, a14, a15] w) : MixZ P ds o S K s [a0, a1, a2, a3, a4, a5, a6, a7, a8, a9, a10, a11, a12, a13, a14, a15] w := h
theorem nZ30 {P : Program} {ds : List Deferred} {o : List Oper} {S : World → Prop} {K : List Value → World → Prop} {s : List (Bool × Nat)} {w : World} {a0 a1 a2 a3 a4 a5 a6 a7 a8 a9 a10 a11 a12 a13 a14 a15 a16 a17 a18 a19 a20 a21 a22 a23 a24 a25 a26 a27 a28 a29 : Value} (h : MixZ P ds o S K s [a0, a1, a2, a3, a4, a5, a6, a7, a8, a9, a10, a11, a12, a13, a14, a15, a16, a17, a18, a19, a20, a21, a22, a23, a24, a25, a26, a27, a28, a29] w) : MixZ P ds o S K s [a0, a1, a2, a3, a4, a5, a6, a7, a8, a9, a10, a11, a12, a13, a14, a15, a16, a17, a18, a19, a20, a21, a22, a23, a24, a25, a26, a27, a28, a29] w := h
theorem nZ38 {P : Program} {ds : List Deferred} {o : List Oper} {S : World → Prop} {K : List Value → World → Prop} {s : List (Bool × Nat)} {w : World} {a0 a1 a2 a3 a4 a5 a6 a7 a8 a9 a10 a11 a12 a13 a14 a15 a16 a17 a18 a19 a20 a21 a22 a23 a24 a25 a26 a27 a28 a29 a30 a31 a32 a33 a34 a35 a36 a37 : Value} (h : MixZ P ds o S K s [a0, a1, a2, a3, a4, a5, a6, a7, a8, a9, a10, a11, a12, a13, a14, a15, a16, a17, a18, a19, a20, a21, a22, a23, a24, a25, a26, a27, a28, a29, a30, a31, a32, a33, a34, a35, a36, a37] w) : MixZ P ds o S K s [a0, a1, a2, a3, a4, a5, a6, a7, a8, a9, a10, a11, a12, a13, a14, a15, a16, a17, a18, a19, a20, a21, a22, a23, a24, a25, a26, a27, a28, a29, a30, a31, a32, a33, a34, a35, a36, a37] w := h
theorem nZ49 {P : Program} {ds : List Deferred} {o : List Oper} {S : World → Prop} {K : List Value → World → Prop} {s : List (Bool × Nat)} {w : World} {a0 a1 a2 a3 a4 a5 a6 a7 a8 a9 a10 a11 a12 a13 a14 a15 a16 a17 a18 a19 a20 a21 a22 a23 a24 a25 a26 a27 a28 a29 a30 a31 a32 a33 a34 a35 a36 a37 a38 a39 a40 a41 a42 a43 a44 a45 a46 a47 a48 : Value} (h : MixZ P ds o S K s [a0, a1, a2, a3, a4, a5, a6, a7, a8, a9, a10, a11, a12, a13, a14, a15, a16, a17, a18, a19, a20, a21, a22, a23, a24, a25, a26, a27, a28, a29, a30, a31, a32, a33, a34, a35, a36, a37, a38, a39, a40, a41, a42, a43, a44, a45, a46, a47, a48] w) : MixZ P ds o S K s [a0, a1, a2, a3, a4, a5, a6, a7, a8, a9, a10, a11, a12, a13, a14, a15, a16, a17, a18, a19, a20, a21, a22, a23, a24, a25, a26, a27, a28, a29, a30, a31, a32, a33, a34, a35, a36, a37, a38, a39, a40, a41, a42, a43, a44, a45, a46, a47, a48] w := h
theorem nZ50 {P : Program} {ds : List Deferred} {o : List Oper} {S : World → Prop} {K : List Value → World → Prop} {s : List (Bool × Nat)} {w : World} {a0 a1 a2 a3 a4 a5 a6 a7 a8 a9 a10 a11 a12 a13 a14 a15 a16 a17 a18 a19 a20 a21 a22 a23 a24 a25 a26 a27 a28 a29 a30 a31 a32 a33 a34 a35 a36 a37 a38 a39 a40 a41 a42 a43 a44 a45 a46 a47 a48 a49 : Value} (h : MixZ P ds o S K s [a0, a1, a2, a3, a4, a5, a6, a7, a8, a9, a10, a11, a12, a13, a14, a15, a16, a17, a18, a19, a20, a21, a22, a23, a24, a25, a26, a27, a28, a29, a30, a31, a32, a33, a34, a35, a36, a37, a38, a39, a40, a41, a42, a43, a44, a45, a46, a47, a48, a49] w) : MixZ P ds o S K s [a0, a1, a2, a3, a4, a5, a6, a7, a8, a9, a10, a11, a12, a13, a14, a15, a16, a17, a18, a19, a20, a21, a22, a23, a24, a25, a26, a27, a28, a29, a30, a31, a32, a33, a34, a35, a36, a37, a38, a39, a40, a41, a42, a43, a44, a45, a46, a47, a48, a49] w := h
theorem nZ53 {P : Program} {ds : List Deferred} {o : List Oper} {S : World → Prop} {K : List Value → World → Prop} {s : List (Bool × Nat)} {w : World} {a0 a1 a2 a3 a4 a5 a6 a7 a8 a9 a10 a11 a12 a13 a14 a15 a16 a17 a18 a19 a20 a21 a22 a23 a24 a25 a26 a27 a28 a29 a30 a31 a32 a33 a34 a35 a36 a37 a38 a39 a40 a41 a42 a43 a44 a45 a46 a47 a48 a49 a50 a51 a52 : Value} (h : MixZ P ds o S K s [a0, a1, a2, a3, a4, a5, a6, a7, a8, a9, a10, a11, a12, a13, a14, a15, a16, a17, a18, a19, a20, a21, a22, a23, a24, a25, a26, a27, a28, a29, a30, a31, a32, a33, a34, a35, a36, a37, a38, a39, a40, a41, a42, a43, a44, a45, a46, a47, a48, a49, a50, a51, a52] w) : MixZ P ds o S K s [a0, a1, a2, a3, a4, a5, a6, a7, a8, a9, a10, a11, a12, a13, a14, a15, a16, a17, a18, a19, a20, a21, a22, a23, a24, a25, a26, a27, a28, a29, a30, a31, a32, a33, a34, a35, a36, a37, a38, a39, a40, a41, a42, a43, a44, a45, a46, a47, a48, a49, a50, a51, a52] w := h
theorem nZ58 {P : Program} {ds : List Deferred} {o : List Oper} {S : World → Prop} {K : List Value → World → Prop} {s : List (Bool × Nat)} {w : World} {a0 a1 a2 a3 a4 a5 a6 a7 a8 a9 a10 a11 a12 a13 a14 a15 a16 a17 a18 a19 a20 a21 a22 a23 a24 a25 a26 a27 a28 a29 a30 a31 a32 a33 a34 a35 a36 a37 a38 a39 a40 a41 a42 a43 a44 a45 a46 a47 a48 a49 a50 a51 a52 a53 a54 a55 a56 a57 : Value} (h : MixZ P ds o S K s [a0, a1, a2, a3, a4, a5, a6, a7, a8, a9, a10, a11, a12, a13, a14, a15, a16, a17, a18, a19, a20, a21, a22, a23, a24, a25, a26, a27, a28, a29, a30, a31, a32, a33, a34, a35, a36, a37, a38, a39, a40, a41, a42, a43, a44, a45, a46, a47, a48, a49, a50, a51, a52, a53, a54, a55, a56, a57] w) : MixZ P ds o S K s [a0, a1, a2, a3, a4, a5, a6, a7, a8, a9, a10, a11, a12, a13, a14, a15, a16, a17, a18, a19, a20, a21, a22, a23, a24, a25, a26, a27, a28, a29, a30, a31, a32, a33, a34, a35, a36, a37, a38, a39, a40, a41, a42, a43, a44, a45, a46, a47, a48, a49, a50, a51, a52, a53, a54, a55, a56, a57] w := h
theorem nZ67 {P : Program} {ds : List Deferred} {o : List Oper} {S : World → Prop} {K : List Value → World → Prop} {s : List (Bool × Nat)} {w : World} {a0 a1 a2 a3 a4 a5 a6 a7 a8 a9 a10 a11 a12 a13 a14 a15 a16 a17 a18 a19 a20 a21 a22 a23 a24 a25 a26 a27 a28 a29 a30 a31 a32 a33 a34 a35 a36 a37 a38 a39 a40 a41 a42 a43 a44 a45 a46 a47 a48 a49 a50 a51 a52 a53 a54 a55 a56 a57 a58 a59 a60 a61 a62 a63 a64 a65 a66 : Value} (h : MixZ P ds o S K s [a0, a1, a2, a3, a4, a5, a6, a7, a8, a9, a10, a11, a12, a13, a14, a15, a16, a17, a18, a19, a20, a21, a22, a23, a24, a25, a26, a27, a28, a29, a30, a31, a32, a33, a34, a35, a36, a37, a38, a39, a40, a41, a42, a43, a44, a45, a46, a47, a48, a49, a50, a51, a52, a53, a54, a55, a56, a57, a58, a59, a60, a61, a62, a63, a64, a65, a66] w) : MixZ P ds o S K s [a0, a1, a2, a3, a4, a5, a6, a7, a8, a9, a10, a11, a12, a13, a14, a15, a16, a17, a18, a19, a20, a21, a22, a23, a24, a25, a26, a27, a28, a29, a30, a31, a32, a33, a34, a35, a36, a37, a38, a39, a40, a41, a42, a43, a44, a45, a46, a47, a48, a49, a50, a51, a52, a53, a54, a55, a56, a57, a58, a59, a60, a61, a62, a63, a64, a65, a66] w := h
theorem nZ82 {P : Program} {ds : List Deferred} {o : List Oper} {S : World → Prop} {K : List Value → World → Prop} {s : List (Bool × Nat)} {w : World} {a0 a1 a2 a3 a4 a5 a6 a7 a8 a9 a10 a11 a12 a13 a14 a15 a16 a17 a18 a19 a20 a21 a22 a23 a24 a25 a26 a27 a28 a29 a30 a31 a32 a33 a34 a35 a36 a37 a38 a39 a40 a41 a42 a43 a44 a45 a46 a47 a48 a49 a50 a51 a52 a53 a54 a55 a56 a57 a58 a59 a60 a61 a62 a63 a64 a65 a66 a67 a68 a69 a70 a71 a72 a73 a74 a75 a76 a77 a78 a79 a80 a81 : Value} (h : MixZ P ds o S K s [a0, a1, a2, a3, a4, a5, a6, a7, a8, a9, a10, a11, a12, a13, a14, a15, a16, a17, a18, a19, a20, a21, a22, a23, a24, a25, a26, a27, a28, a29, a30, a31, a32, a33, a34, a35, a36, a37, a38, a39, a40, a41, a42, a43, a44, a45, a46, a47, a48, a49, a50, a51, a52, a53, a54, a55, a56, a57, a58, a59, a60, a61, a62, a63, a64, a65, a66, a67, a68, a69, a70, a71, a72, a73, a74, a75, a76, a77, a78, a79, a80, a81] w) : MixZ P ds o S K s [a0, a1, a2, a3, a4, a5, a6, a7, a8, a9, a10, a11, a12, a13, a14, a15, a16, a17, a18, a19, a20, a21, a22, a23, a24, a25, a26, a27, a28, a29, a30, a31, a32, a33, a34, a35, a36, a37, a38, a39, a40, a41, a42, a43, a44, a45, a46, a47, a48, a49, a50, a51, a52, a53, a54, a55, a56, a57, a58, a59, a60, a61, a62, a63, a64, a65, a66, a67, a68, a69, a70, a71, a72, a73, a74, a75, a76, a77, a78, a79, a80, a81] w := h
theorem nZ95 {P : Program} {ds : List Deferred} {o : List Oper} {S : World → Prop} {K : List Value → World → Prop} {s : List (Bool × Nat)} {w : World} {a0 a1 a2 a3 a4 a5 a6 a7 a8 a9 a10 a11 a12 a13 a14 a15 a16 a17 a18 a19 a20 a21 a22 a23 a24 a25 a26 a27 a28 a29 a30 a31 a32 a33 a34 a35 a36 a37 a38 a39 a40 a41 a42 a43 a44 a45 a46 a47 a48 a49 a50 a51 a52 a53 a54 a55 a56 a57 a58 a59 a60 a61 a62 a63 a64 a65 a66 a67 a68 a69 a70 a71 a72 a73 a74 a75 a76 a77 a78 a79 a80 a81 a82 a83 a84 a85 a86 a87 a88 a89 a90 a91 a92 a93 a94 : Value} (h : MixZ P ds o S K s [a0, a1, a2, a3, a4, a5, a6, a7, a8, a9, a10, a11, a12, a13, a14, a15, a16, a17, a18, a19, a20, a21, a22, a23, a24, a25, a26, a27, a28, a29, a30, a31, a32, a33, a34, a35, a36, a37, a38, a39, a40, a41, a42, a43, a44, a45, a46, a47, a48, a49, a50, a51, a52, a53, a54, a55, a56, a57, a58, a59, a60, a61, a62, a63, a64, a65, a66, a67, a68, a69, a70, a71, a72, a73, a74, a75, a76, a77, a78, a79, a80, a81, a82, a83, a84, a85, a86, a87, a88, a89, a90, a91, a92, a93, a94] w) : MixZ P ds o S K s [a0, a1, a2, a3, a4, a5, a6, a7, a8, a9, a10, a11, a12, a13, a14, a15, a16, a17, a18, a19, a20, a21, a22, a23, a24, a25, a26, a27, a28, a29, a30, a31, a32, a33, a34, a35, a36, a37, a38, a39, a40, a41, a42, a43, a44, a45, a46, a47, a48, a49, a50, a51, a52, a53, a54, a55, a56, a57, a58, a59, a60, a61, a62, a63, a64, a65, a66, a67, a68, a69, a70, a71, a72, a73, a74, a75, a76, a77, a78, a79, a80, a81, a82, a83, a84, a85, a86, a87, a88, a89, a90, a91, a92, a93, a94] w := h
theorem nZ98 {P : Program} {ds : List Deferred} {o : List Oper} {S : World → Prop} {K : List Value → World → Prop} {s : List (Bool × Nat)} {w : World} {a0 a1 a2 a3 a4 a5 a6 a7 a8 a9 a10 a11 a12 a13 a14 a15 a16 a17 a18 a19 a20 a21 a22 a23 a24 a25 a26 a27 a28 a29 a30 a31 a32 a33 a34 a35 a36 a37 a38 a39 a40 a41 a42 a43 a44 a45 a46 a47 a48 a49 a50 a51 a52 a53 a54 a55 a56 a57 a58 a59 a60 a61 a62 a63 a64 a65 a66 a67 a68 a69 a70 a71 a72 a73 a74 a75 a76 a77 a78 a79 a80 a81 a82 a83 a84 a85 a86 a87 a88 a89 a90 a91 a92 a93 a94 a95 a96 a97 : Value} (h : MixZ P ds o S K s [a0, a1, a2, a3, a4, a5, a6, a7, a8, a9, a10, a11, a12, a13, a14, a15, a16, a17, a18, a19, a20, a21, a22, a23, a24, a25, a26, a27, a28, a29, a30, a31, a32, a33, a34, a35, a36, a37, a38, a39, a40, a41, a42, a43, a44, a45, a46, a47, a48, a49, a50, a51, a52, a53, a54, a55, a56, a57, a58, a59, a60, a61, a62, a63, a64, a65, a66, a67, a68, a69, a70, a71, a72, a73, a74, a75, a76, a77, a78, a79, a80, a81, a82, a83, a84, a85, a86, a87, a88, a89, a90, a91, a92, a93, a94, a95, a96, a97] w) : MixZ P ds o S K s [a0, a1, a2, a3, a4, a5, a6, a7, a8, a9, a10, a11, a12, a13, a14, a15, a16, a17, a18, a19, a20, a21, a22, a23, a24, a25, a26, a27, a28, a29, a30, a31, a32, a33, a34, a35, a36, a37, a38, a39, a40, a41, a42, a43, a44, a45, a46, a47, a48, a49, a50, a51, a52, a53, a54, a55, a56, a57, a58, a59, a60, a61, a62, a63, a64, a65, a66, a67, a68, a69, a70, a71, a72, a73, a74, a75, a76, a77, a78, a79, a80, a81, a82, a83, a84, a85, a86, a87, a88, a89, a90, a91, a92, a93, a94, a95, a96, a97] w := h
theorem nO12 {P : Program} {ds : List Deferred} {o : List Oper} {K : List Value → World → Prop} {Q : Post} {p : List Oper} {w : World} {a0 a1 a2 a3 a4 a5 a6 a7 a8 a9 a10 a11 : Value} (h : Ops P ds o K Q p [a0, a1, a2, a3, a4, a5, a6, a7, a8, a9, a10, a11] w) : Ops P ds o K Q p [a0, a1, a2, a3, a4, a5, a6, a7, a8, a9, a10, a11] w := h
theorem nO14 {P : Program} {ds : List Deferred} {o : List Oper} {K : List Value → World → Prop} {Q : Post} {p : List Oper} {w : World} {a0 a1 a2 a3 a4 a5 a6 a7 a8 a9 a10 a11 a12 a13 : Value} (h : Ops P ds o K Q p [a0, a1, a2, a3, a4, a5, a6, a7, a8, a9, a10, a11, a12, a13] w) : Ops P ds o K Q p [a0, a1, a2, a3, a4, a5, a6, a7, a8, a9, a10, a11, a12, a13] w := h
theorem nO16 {P : Program} {ds : List Deferred} {o : List Oper} {K : List Value → World → Prop} {Q : Post} {p : List Oper} {w : World} {a0 a1 a2 a3 a4 a5 a6 a7 a8 a9 a10 a11 a12 a13 a14 a15 : Value} (h : Ops P ds o K Q p [a0, a1, a2, a3, a4, a5, a6, a7, a8, a9, a10, a11, a12, a13, a14, a15] w) : Ops P ds o K Q p [a0, a1, a2, a3, a4, a5, a6, a7, a8, a9, a10, a11, a12, a13, a14, a15] w := h
theorem nO17 {P : Program} {ds : List Deferred} {o : List Oper} {K : List Value → World → Prop} {Q : Post} {p : List Oper} {w : World} {a0 a1 a2 a3 a4 a5 a6 a7 a8 a9 a10 a11 a12 a13 a14 a15 a16 : Value} (h : Ops P ds o K Q p [a0, a1, a2, a3, a4, a5, a6, a7, a8, a9, a10, a11, a12, a13, a14, a15, a16] w) : Ops P ds o K Q p [a0, a1, a2, a3, a4, a5, a6, a7, a8, a9, a10, a11, a12, a13, a14, a15, a16] w := h
theorem nO19 {P : Program} {ds : List Deferred} {o : List Oper} {K : List Value → World → Prop} {Q : Post} {p : List Oper} {w : World} {a0 a1 a2 a3 a4 a5 a6 a7 a8 a9 a10 a11 a12 a13 a14 a15 a16 a17 a18 : Value} (h : Ops P ds o K Q p [a0, a1, a2, a3, a4, a5, a6, a7, a8, a9, a10, a11, a12, a13, a14, a15, a16, a17, a18] w) : Ops P ds o K Q p [a0, a1, a2, a3, a4, a5, a6, a7, a8, a9, a10, a11, a12, a13, a14, a15, a16, a17, a18] w := h
theorem nO20 {P : Program} {ds : List Deferred} {o : List Oper} {K : List Value → World → Prop} {Q : Post} {p : List Oper} {w : World} {a0 a1 a2 a3 a4 a5 a6 a7 a8 a9 a10 a11 a12 a13 a14 a15 a16 a17 a18 a19 : Value} (h : Ops P ds o K Q p [a0, a1, a2, a3, a4, a5, a6, a7, a8, a9, a10, a11, a12, a13, a14, a15, a16, a17, a18, a19] w) : Ops P ds o K Q p [a0, a1, a2, a3, a4, a5, a6, a7, a8, a9, a10, a11, a12, a13, a14, a15, a16, a17, a18, a19] w := h
theorem nO23 {P : Program} {ds : List Deferred} {o : List Oper} {K : List Value → World → Prop} {Q : Post} {p : List Oper} {w : World} {a0 a1 a2 a3 a4 a5 a6 a7 a8 a9 a10 a11 a12 a13 a14 a15 a16 a17 a18 a19 a20 a21 a22 : Value} (h : Ops P ds o K Q p [a0, a1, a2, a3, a4, a5, a6, a7, a8, a9, a10, a11, a12, a13, a14, a15, a16, a17, a18, a19, a20, a21, a22] w) : Ops P ds o K Q p [a0, a1, a2, a3, a4, a5, a6, a7, a8, a9, a10, a11, a12, a13, a14, a15, a16, a17, a18, a19, a20, a21, a22] w := h
theorem nO24 {P : Program} {ds : List Deferred} {o : List Oper} {K : List Value → World → Prop} {Q : Post} {p : List Oper} {w : World} {a0 a1 a2 a3 a4 a5 a6 a7 a8 a9 a10 a11 a12 a13 a14 a15 a16 a17 a18 a19 a20 a21 a22 a23 : Value} (h : Ops P ds o K Q p [a0, a1, a2, a3, a4, a5, a6, a7, a8, a9, a10, a11, a12, a13, a14, a15, a16, a17, a18, a19, a20, a21, a22, a23] w) : Ops P ds o K Q p [a0, a1, a2, a3, a4, a5, a6, a7, a8, a9, a10, a11, a12, a13, a14, a15, a16, a17, a18, a19, a20, a21, a22, a23] w := h
theorem nO25 {P : Program} {ds : List Deferred} {o : List Oper} {K : List Value → World → Prop} {Q : Post} {p : List Oper} {w : World} {a0 a1 a2 a3 a4 a5 a6 a7 a8 a9 a10 a11 a12 a13 a14 a15 a16 a17 a18 a19 a20 a21 a22 a23 a24 : Value} (h : Ops P ds o K Q p [a0, a1, a2, a3, a4, a5, a6, a7, a8, a9, a10, a11, a12, a13, a14, a15, a16, a17, a18, a19, a20, a21, a22, a23, a24] w) : Ops P ds o K Q p [a0, a1, a2, a3, a4, a5, a6, a7, a8, a9, a10, a11, a12, a13, a14, a15, a16, a17, a18, a19, a20, a21, a22, a23, a24] w := h
theorem nO26 {P : Program} {ds : List Deferred} {o : List Oper} {K : List Value → World → Prop} {Q : Post} {p : List Oper} {w : World} {a0 a1 a2 a3 a4 a5 a6 a7 a8 a9 a10 a11 a12 a13 a14 a15 a16 a17 a18 a19 a20 a21 a22 a23 a24 a25 : Value} (h : Ops P ds o K Q p [a0, a1, a2, a3, a4, a5, a6, a7, a8, a9, a10, a11, a12, a13, a14, a15, a16, a17, a18, a19, a20, a21, a22, a23, a24, a25] w) : Ops P ds o K Q p [a0, a1, a2, a3, a4, a5, a6, a7, a8, a9, a10, a11, a12, a13, a14, a15, a16, a17, a18, a19, a20, a21, a22, a23, a24, a25] w := h
theorem nO27 {P : Program} {ds : List Deferred} {o : List Oper} {K : List Value → World → Prop} {Q : Post} {p : List Oper} {w : World} {a0 a1 a2 a3 a4 a5 a6 a7 a8 a9 a10 a11 a12 a13 a14 a15 a16 a17 a18 a19 a20 a21 a22 a23 a24 a25 a26 : Value} (h : Ops P ds o K Q p [a0, a1, a2, a3, a4, a5, a6, a7, a8, a9, a10, a11, a12, a13, a14, a15, a16, a17, a18, a19, a20, a21, a22, a23, a24, a25, a26] w) : Ops P ds o K Q p [a0, a1, a2, a3, a4, a5, a6, a7, a8, a9, a10, a11, a12, a13, a14, a15, a16, a17, a18, a19, a20, a21, a22, a23, a24, a25, a26] w := h
theorem nO30 {P : Program} {ds : List Deferred} {o : List Oper} {K : List Value → World → Prop} {Q : Post} {p : List Oper} {w : World} {a0 a1 a2 a3 a4 a5 a6 a7 a8 a9 a10 a11 a12 a13 a14 a15 a16 a17 a18 a19 a20 a21 a22 a23 a24 a25 a26 a27 a28 a29 : Value} (h : Ops P ds o K Q p [a0, a1, a2, a3, a4, a5, a6, a7, a8, a9, a10, a11, a12, a13, a14, a15, a16, a17, a18, a19, a20, a21, a22, a23, a24, a25, a26, a27, a28, a29] w) : Ops P ds o K Q p [a0, a1, a2, a3, a4, a5, a6, a7, a8, a9, a10, a11, a12, a13, a14, a15, a16, a17, a18, a19, a20, a21, a22, a23, a24, a25, a26, a27, a28, a29] w := h
theorem nO34 {P : Program} {ds : List Deferred} {o : List Oper} {K : List Value → World → Prop} {Q : Post} {p : List Oper} {w : World} {a0 a1 a2 a3 a4 a5 a6 a7 a8 a9 a10 a11 a12 a13 a14 a15 a16 a17 a18 a19 a20 a21 a22 a23 a24 a25 a26 a27 a28 a29 a30 a31 a32 a33 : Value} (h : Ops P ds o K Q p [a0, a1, a2, a3, a4, a5, a6, a7, a8, a9, a10, a11, a12, a13, a14, a15, a16, a17, a18, a19, a20, a21, a22, a23, a24, a25, a26, a27, a28, a29, a30, a31, a32, a33] w) : Ops P ds o K Q p [a0, a1, a2, a3, a4, a5, a6, a7, a8, a9, a10, a11, a12, a13, a14, a15, a16, a17, a18, a19, a20, a21, a22, a23, a24, a25, a26, a27, a28, a29, a30, a31, a32, a33] w := h
theorem nO38 {P : Program} {ds : List Deferred} {o : List Oper} {K : List Value → World → Prop} {Q : Post} {p : List Oper} {w : World} {a0 a1 a2 a3 a4 a5 a6 a7 a8 a9 a10 a11 a12 a13 a14 a15 a16 a17 a18 a19 a20 a21 a22 a23 a24 a25 a26 a27 a28 a29 a30 a31 a32 a33 a34 a35 a36 a37 : Value} (h : Ops P ds o K Q p [a0, a1, a2, a3, a4, a5, a6, a7, a8, a9, a10, a11, a12, a13, a14, a15, a16, a17, a18, a19, a20, a21, a22, a23, a24, a25, a26, a27, a28, a29, a30, a31, a32, a33, a34, a35, a36, a37] w) : Ops P ds o K Q p [a0, a1, a2, a3, a4, a5, a6, a7, a8, a9, a10, a11, a12, a13, a14, a15, a16, a17, a18, a19, a20, a21, a22, a23, a24, a25, a26, a27, a28, a29, a30, a31, a32, a33, a34, a35, a36, a37] w := h
theorem nO42 {P : Program} {ds : List Deferred} {o : List Oper} {K : List Value → World → Prop} {Q : Post} {p : List Oper} {w : World} {a0 a1 a2 a3 a4 a5 a6 a7 a8 a9 a10 a11 a12 a13 a14 a15 a16 a17 a18 a19 a20 a21 a22 a23 a24 a25 a26 a27 a28 a29 a30 a31 a32 a33 a34 a35 a36 a37 a38 a39 a40 a41 : Value} (h : Ops P ds o K Q p [a0, a1, a2, a3, a4, a5, a6, a7, a8, a9, a10, a11, a12, a13, a14, a15, a16, a17, a18, a19, a20, a21, a22, a23, a24, a25, a26, a27, a28, a29, a30, a31, a32, a33, a34, a35, a36, a37, a38, a39, a40, a41] w) : Ops P ds o K Q p [a0, a1, a2, a3, a4, a5, a6, a7, a8, a9, a10, a11, a12, a13, a14, a15, a16, a17, a18, a19, a20, a21, a22, a23, a24, a25, a26, a27, a28, a29, a30, a31, a32, a33, a34, a35, a36, a37, a38, a39, a40, a41] w := h
theorem nO43 {P : Program} {ds : List Deferred} {o : List Oper} {K : List Value → World → Prop} {Q : Post} {p : List Oper} {w : World} {a0 a1 a2 a3 a4 a5 a6 a7 a8 a9 a10 a11 a12 a13 a14 a15 a16 a17 a18 a19 a20 a21 a22 a23 a24 a25 a26 a27 a28 a29 a30 a31 a32 a33 a34 a35 a36 a37 a38 a39 a40 a41 a42 : Value} (h : Ops P ds o K Q p [a0, a1, a2, a3, a4, a5, a6, a7, a8, a9, a10, a11, a12, a13, a14, a15, a16, a17, a18, a19, a20, a21, a22, a23, a24, a25, a26, a27, a28, a29, a30, a31, a32, a33, a34, a35, a36, a37, a38, a39, a40, a41, a42] w) : Ops P ds o K Q p [a0, a1, a2, a3, a4, a5, a6, a7, a8, a9, a10, a11, a12, a13, a14, a15, a16, a17, a18, a19, a20, a21, a22, a23, a24, a25, a26, a27, a28, a29, a30, a31, a32, a33, a34, a35, a36, a37, a38, a39, a40, a41, a42] w := h
theorem nO49 {P : Program} {ds : List Deferred} {o : List Oper} {K : List Value → World → Prop} {Q : Post} {p : List Oper} {w : World} {a0 a1 a2 a3 a4 a5 a6 a7 a8 a9 a10 a11 a12 a13 a14 a15 a16 a17 a18 a19 a20 a21 a22 a23 a24 a25 a26 a27 a28 a29 a30 a31 a32 a33 a34 a35 a36 a37 a38 a39 a40 a41 a42 a43 a44 a45 a46 a47 a48 : Value} (h : Ops P ds o K Q p [a0, a1, a2, a3, a4, a5, a6, a7, a8, a9, a10, a11, a12, a13, a14, a15, a16, a17, a18, a19, a20, a21, a22, a23, a24, a25, a26, a27, a28, a29, a30, a31, a32, a33, a34, a35, a36, a37, a38, a39, a40, a41, a42, a43, a44, a45, a46, a47, a48] w) : Ops P ds o K Q p [a0, a1, a2, a3, a4, a5, a6, a7, a8, a9, a10, a11, a12, a13, a14, a15, a16, a17, a18, a19, a20, a21, a22, a23, a24, a25, a26, a27, a28, a29, a30, a31, a32, a33, a34, a35, a36, a37, a38, a39, a40, a41, a42, a43, a44, a45, a46, a47, a48] w := h
theorem nO50 {P : Program} {ds : List Deferred} {o : List Oper} {K : List Value → World → Prop} {Q : Post} {p : List Oper} {w : World} {a0 a1 a2 a3 a4 a5 a6 a7 a8 a9 a10 a11 a12 a13 a14 a15 a16 a17 a18 a19 a20 a21 a22 a23 a24 a25 a26 a27 a28 a29 a30 a31 a32 a33 a34 a35 a36 a37 a38 a39 a40 a41 a42 a43 a44 a45 a46 a47 a48 a49 : Value} (h : Ops P ds o K Q p [a0, a1, a2, a3, a4, a5, a6, a7, a8, a9, a10, a11, a12, a13, a14, a15, a16, a17, a18, a19, a20, a21, a22, a23, a24, a25, a26, a27, a28, a29, a30, a31, a32, a33, a34, a35, a36, a37, a38, a39, a40, a41, a42, a43, a44, a45, a46, a47, a48, a49] w) : Ops P ds o K Q p [a0, a1, a2, a3, a4, a5, a6, a7, a8, a9, a10, a11, a12, a13, a14, a15, a16, a17, a18, a19, a20, a21, a22, a23, a24, a25, a26, a27, a28, a29, a30, a31, a32, a33, a34, a35, a36, a37, a38, a39, a40, a41, a42, a43, a44, a45, a46, a47, a48, a49] w := h
theorem nO53 {P : Program} {ds : List Deferred} {o : List Oper} {K : List Value → World → Prop} {Q : Post} {p : List Oper} {w : World} {a0 a1 a2 a3 a4 a5 a6 a7 a8 a9 a10 a11 a12 a13 a14 a15 a16 a17 a18 a19 a20 a21 a22 a23 a24 a25 a26 a27 a28 a29 a30 a31 a32 a33 a34 a35 a36 a37 a38 a39 a40 a41 a42 a43 a44 a45 a46 a47 a48 a49 a50 a51 a52 : Value} (h : Ops P ds o K Q p [a0, a1, a2, a3, a4, a5, a6, a7, a8, a9, a10, a11, a12, a13, a14, a15, a16, a17, a18, a19, a20, a21, a22, a23, a24, a25, a26, a27, a28, a29, a30, a31, a32, a33, a34, a35, a36, a37, a38, a39, a40, a41, a42, a43, a44, a45, a46, a47, a48, a49, a50, a51, a52] w) : Ops P ds o K Q p [a0, a1, a2, a3, a4, a5, a6, a7, a8, a9, a10, a11, a12, a13, a14, a15, a16, a17, a18, a19, a20, a21, a22, a23, a24, a25, a26, a27, a28, a29, a30, a31, a32, a33, a34, a35, a36, a37, a38, a39, a40, a41, a42, a43, a44, a45, a46, a47, a48, a49, a50, a51, a52] w := h
theorem nO58 {P : Program} {ds : List Deferred} {o : List Oper} {K : List Value → World → Prop} {Q : Post} {p : List Oper} {w : World} {a0 a1 a2 a3 a4 a5 a6 a7 a8 a9 a10 a11 a12 a13 a14 a15 a16 a17 a18 a19 a20 a21 a22 a23 a24 a25 a26 a27 a28 a29 a30 a31 a32 a33 a34 a35 a36 a37 a38 a39 a40 a41 a42 a43 a44 a45 a46 a47 a48 a49 a50 a51 a52 a53 a54 a55 a56 a57 : Value} (h : Ops P ds o K Q p [a0, a1, a2, a3, a4, a5, a6, a7, a8, a9, a10, a11, a12, a13, a14, a15, a16, a17, a18, a19, a20, a21, a22, a23, a24, a25, a26, a27, a28, a29, a30, a31, a32, a33, a34, a35, a36, a37, a38, a39, a40, a41, a42, a43, a44, a45, a46, a47, a48, a49, a50, a51, a52, a53, a54, a55, a56, a57] w) : Ops P ds o K Q p [a0, a1, a2, a3, a4, a5, a6, a7, a8, a9, a10, a11, a12, a13, a14, a15, a16, a17, a18, a19, a20, a21, a22, a23, a24, a25, a26, a27, a28, a29, a30, a31, a32, a33, a34, a35, a36, a37, a38, a39, a40, a41, a42, a43, a44, a45, a46, a47, a48, a49, a50, a51, a52, a53, a54, a55, a56, a57] w := h
theorem nO66 {P : Program} {ds : List Deferred} {o : List Oper} {K : List Value → World → Prop} {Q : Post} {p : List Oper} {w : World} {a0 a1 a2 a3 a4 a5 a6 a7 a8 a9 a10 a11 a12 a13 a14 a15 a16 a17 a18 a19 a20 a21 a22 a23 a24 a25 a26 a27 a28 a29 a30 a31 a32 a33 a34 a35 a36 a37 a38 a39 a40 a41 a42 a43 a44 a45 a46 a47 a48 a49 a50 a51 a52 a53 a54 a55 a56 a57 a58 a59 a60 a61 a62 a63 a64 a65 : Value} (h : Ops P ds o K Q p [a0, a1, a2, a3, a4, a5, a6, a7, a8, a9, a10, a11, a12, a13, a14, a15, a16, a17, a18, a19, a20, a21, a22, a23, a24, a25, a26, a27, a28, a29, a30, a31, a32, a33, a34, a35, a36, a37, a38, a39, a40, a41, a42, a43, a44, a45, a46, a47, a48, a49, a50, a51, a52, a53, a54, a55, a56, a57, a58, a59, a60, a61, a62, a63, a64, a65] w) : Ops P ds o K Q p [a0, a1, a2, a3, a4, a5, a6, a7, a8, a9, a10, a11, a12, a13, a14, a15, a16, a17, a18, a19, a20, a21, a22, a23, a24, a25, a26, a27, a28, a29, a30, a31, a32, a33, a34, a35, a36, a37, a38, a39, a40, a41, a42, a43, a44, a45, a46, a47, a48, a49, a50, a51, a52, a53, a54, a55, a56, a57, a58, a59, a60, a61, a62, a63, a64, a65] w := h
theorem nO67 {P : Program} {ds : List Deferred} {o : List Oper} {K : List Value → World → Prop} {Q : Post} {p : List Oper} {w : World} {a0 a1 a2 a3 a4 a5 a6 a7 a8 a9 a10 a11 a12 a13 a14 a15 a16 a17 a18 a19 a20 a21 a22 a23 a24 a25 a26 a27 a28 a29 a30 a31 a32 a33 a34 a35 a36 a37 a38 a39 a40 a41 a42 a43 a44 a45 a46 a47 a48 a49 a50 a51 a52 a53 a54 a55 a56 a57 a58 a59 a60 a61 a62 a63 a64 a65 a66 : Value} (h : Ops P ds o K Q p [a0, a1, a2, a3, a4, a5, a6, a7, a8, a9, a10, a11, a12, a13, a14, a15, a16, a17, a18, a19, a20, a21, a22, a23, a24, a25, a26, a27, a28, a29, a30, a31, a32, a33, a34, a35, a36, a37, a38, a39, a40, a41, a42, a43, a44, a45, a46, a47, a48, a49, a50, a51, a52, a53, a54, a55, a56, a57, a58, a59, a60, a61, a62, a63, a64, a65, a66] w) : Ops P ds o K Q p [a0, a1, a2, a3, a4, a5, a6, a7, a8, a9, a10, a11, a12, a13, a14, a15, a16, a17, a18, a19, a20, a21, a22, a23, a24, a25, a26, a27, a28, a29, a30, a31, a32, a33, a34, a35, a36, a37, a38, a39, a40, a41, a42, a43, a44, a45, a46, a47, a48, a49, a50, a51, a52, a53, a54, a55, a56, a57, a58, a59, a60, a61, a62, a63, a64, a65, a66] w := h
theorem nO82 {P : Program} {ds : List Deferred} {o : List Oper} {K : List Value → World → Prop} {Q : Post} {p : List Oper} {w : World} {a0 a1 a2 a3 a4 a5 a6 a7 a8 a9 a10 a11 a12 a13 a14 a15 a16 a17 a18 a19 a20 a21 a22 a23 a24 a25 a26 a27 a28 a29 a30 a31 a32 a33 a34 a35 a36 a37 a38 a39 a40 a41 a42 a43 a44 a45 a46 a47 a48 a49 a50 a51 a52 a53 a54 a55 a56 a57 a58 a59 a60 a61 a62 a63 a64 a65 a66 a67 a68 a69 a70 a71 a72 a73 a74 a75 a76 a77 a78 a79 a80 a81 : Value} (h : Ops P ds o K Q p [a0, a1, a2, a3, a4, a5, a6, a7, a8, a9, a10, a11, a12, a13, a14, a15, a16, a17, a18, a19, a20, a21, a22, a23, a24, a25, a26, a27, a28, a29, a30, a31, a32, a33, a34, a35, a36, a37, a38, a39, a40, a41, a42, a43, a44, a45, a46, a47, a48, a49, a50, a51, a52, a53, a54, a55, a56, a57, a58, a59, a60, a61, a62, a63, a64, a65, a66, a67, a68, a69, a70, a71, a72, a73, a74, a75, a76, a77, a78, a79, a80, a81] w) : Ops P ds o K Q p [a0, a1, a2, a3, a4, a5, a6, a7, a8, a9, a10, a11, a12, a13, a14, a15, a16, a17, a18, a19, a20, a21, a22, a23, a24, a25, a26, a27, a28, a29, a30, a31, a32, a33, a34, a35, a36, a37, a38, a39, a40, a41, a42, a43, a44, a45, a46, a47, a48, a49, a50, a51, a52, a53, a54, a55, a56, a57, a58, a59, a60, a61, a62, a63, a64, a65, a66, a67, a68, a69, a70, a71, a72, a73, a74, a75, a76, a77, a78, a79, a80, a81] w := h
theorem nO95 {P : Program} {ds : List Deferred} {o : List Oper} {K : List Value → World → Prop} {Q : Post} {p : List Oper} {w : World} {a0 a1 a2 a3 a4 a5 a6 a7 a8 a9 a10 a11 a12 a13 a14 a15 a16 a17 a18 a19 a20 a21 a22 a23 a24 a25 a26 a27 a28 a29 a30 a31 a32 a33 a34 a35 a36 a37 a38 a39 a40 a41 a42 a43 a44 a45 a46 a47 a48 a49 a50 a51 a52 a53 a54 a55 a56 a57 a58 a59 a60 a61 a62 a63 a64 a65 a66 a67 a68 a69 a70 a71 a72 a73 a74 a75 a76 a77 a78 a79 a80 a81 a82 a83 a84 a85 a86 a87 a88 a89 a90 a91 a92 a93 a94 : Value} (h : Ops P ds o K Q p [a0, a1, a2, a3, a4, a5, a6, a7, a8, a9, a10, a11, a12, a13, a14, a15, a16, a17, a18, a19, a20, a21, a22, a23, a24, a25, a26, a27, a28, a29, a30, a31, a32, a33, a34, a35, a36, a37, a38, a39, a40, a41, a42, a43, a44, a45, a46, a47, a48, a49, a50, a51, a52, a53, a54, a55, a56, a57, a58, a59, a60, a61, a62, a63, a64, a65, a66, a67, a68, a69, a70, a71, a72, a73, a74, a75, a76, a77, a78, a79, a80, a81, a82, a83, a84, a85, a86, a87, a88, a89, a90, a91, a92, a93, a94] w) : Ops P ds o K Q p [a0, a1, a2, a3, a4, a5, a6, a7, a8, a9, a10, a11, a12, a13, a14, a15, a16, a17, a18, a19, a20, a21, a22, a23, a24, a25, a26, a27, a28, a29, a30, a31, a32, a33, a34, a35, a36, a37, a38, a39, a40, a41, a42, a43, a44, a45, a46, a47, a48, a49, a50, a51, a52, a53, a54, a55, a56, a57, a58, a59, a60, a61, a62, a63, a64, a65, a66, a67, a68, a69, a70, a71, a72, a73, a74, a75, a76, a77, a78, a79, a80, a81, a82, a83, a84, a85, a86, a87, a88, a89, a90, a91, a92, a93, a94] w := h
theorem nO98 {P : Program} {ds : List Deferred} {o : List Oper} {K : List Value → World → Prop} {Q : Post} {p : List Oper} {w : World} {a0 a1 a2 a3 a4 a5 a6 a7 a8 a9 a10 a11 a12 a13 a14 a15 a16 a17 a18 a19 a20 a21 a22 a23 a24 a25 a26 a27 a28 a29 a30 a31 a32 a33 a34 a35 a36 a37 a38 a39 a40 a41 a42 a43 a44 a45 a46 a47 a48 a49 a50 a51 a52 a53 a54 a55 a56 a57 a58 a59 a60 a61 a62 a63 a64 a65 a66 a67 a68 a69 a70 a71 a72 a73 a74 a75 a76 a77 a78 a79 a80 a81 a82 a83 a84 a85 a86 a87 a88 a89 a90 a91 a92 a93 a94 a95 a96 a97 : Value} (h : Ops P ds o K Q p [a0, a1, a2, a3, a4, a5, a6, a7, a8, a9, a10, a11, a12, a13, a14, a15, a16, a17, a18, a19, a20, a21, a22, a23, a24, a25, a26, a27, a28, a29, a30, a31, a32, a33, a34, a35, a36, a37, a38, a39, a40, a41, a42, a43, a44, a45, a46, a47, a48, a49, a50, a51, a52, a53, a54, a55, a56, a57, a58, a59, a60, a61, a62, a63, a64, a65, a66, a67, a68, a69, a70, a71, a72, a73, a74, a75, a76, a77, a78, a79, a80, a81, a82, a83, a84, a85, a86, a87, a88, a89, a90, a91, a92, a93, a94, a95, a96, a97] w) : Ops P ds o K Q p [a0, a1, a2, a3, a4, a5, a6, a7, a8, a9, a10, a11, a12, a13, a14, a15, a16, a17, a18, a19, a20, a21, a22, a23, a24, a25, a26, a27, a28, a29, a30, a31, a32, a33, a34, a35, a36, a37, a38, a39, a40, a41, a42, a43, a44, a45, a46, a47, a48, a49, a50, a51, a52, a53, a54, a55, a56, a57, a58, a59, a60, a61, a62, a63, a64, a65, a66, a67, a68, a69, a70, a71, a72, a73, a74, a75, a76, a77, a78, a79, a80, a81, a82, a83, a84, a85, a86, a87, a88, a89, a90, a91, a92, a93, a94, a95, a96, a97] w := h
theorem nO115 {P : Program} {ds : List Deferred} {o : List Oper} {K : List Value → World → Prop} {Q : Post} {p : List Oper} {w : World} {a0 a1 a2 a3 a4 a5 a6 a7 a8 a9 a10 a11 a12 a13 a14 a15 a16 a17 a18 a19 a20 a21 a22 a23 a24 a25 a26 a27 a28 a29 a30 a31 a32 a33 a34 a35 a36 a37 a38 a39 a40 a41 a42 a43 a44 a45 a46 a47 a48 a49 a50 a51 a52 a53 a54 a55 a56 a57 a58 a59 a60 a61 a62 a63 a64 a65 a66 a67 a68 a69 a70 a71 a72 a73 a74 a75 a76 a77 a78 a79 a80 a81 a82 a83 a84 a85 a86 a87 a88 a89 a90 a91 a92 a93 a94 a95 a96 a97 a98 a99 a100 a101 a102 a103 a104 a105 a106 a107 a108 a109 a110 a111 a112 a113 a114 : Value} (h : Ops P ds o K Q p [a0, a1, a2, a3, a4, a5, a6, a7, a8, a9, a10, a11, a12, a13, a14, a15, a16, a17, a18, a19, a20, a21, a22, a23, a24, a25, a26, a27, a28, a29, a30, a31, a32, a33, a34, a35, a36, a37, a38, a39, a40, a41, a42, a43, a44, a45, a46, a47, a48, a49, a50, a51, a52, a53, a54, a55, a56, a57, a58, a59, a60, a61, a62, a63, a64, a65, a66, a67, a68, a69, a70, a71, a72, a73, a74, a75, a76, a77, a78, a79, a80, a81, a82, a83, a84, a85, a86, a87, a88, a89, a90, a91, a92, a93, a94, a95, a96, a97, a98, a99, a100, a101, a102, a103, a104, a105, a106, a107, a108, a109, a110, a111, a112, a113, a114] w) : Ops P ds o K Q p [a0, a1, a2, a3, a4, a5, a6, a7, a8, a9, a10, a11, a12, a13, a14, a15, a16, a17, a18, a19, a20, a21, a22, a23, a24, a25, a26, a27, a28, a29, a30, a31, a32, a33, a34, a35, a36, a37, a38, a39, a40, a41, a42, a43, a44, a45, a46, a47, a48, a49, a50, a51, a52, a53, a54, a55, a56, a57, a58, a59, a60, a61, a62, a63, a64, a65, a66, a67, a68, a69, a70, a71, a72, a73, a74, a75, a76, a77, a78, a79, a80, a81, a82, a83, a84, a85, a86, a87, a88, a89, a90, a91, a92, a93, a94, a95, a96, a97, a98, a99, a100, a101, a102, a103, a104, a105, a106, a107, a108, a109, a110, a111, a112, a113, a114] w := h
theorem nR12 {P : Program} {ds : List Deferred} {c : List Code} {Q : Post} {w : World} {a0 a1 a2 a3 a4 a5 a6 a7 a8 a9 a10 a11 : Value} (h : Run P ds c Q [a0, a1, a2, a3, a4, a5, a6, a7, a8, a9, a10, a11] w) : Run P ds c Q [a0, a1, a2, a3, a4, a5, a6, a7, a8, a9, a10, a11] w := h
theorem nR13 {P : Program} {ds : List Deferred} {c : List Code} {Q : Post} {w : World} {a0 a1 a2 a3 a4 a5 a6 a7 a8 a9 a10 a11 a12 : Value} (h : Run P ds c Q [a0, a1, a2, a3, a4, a5, a6, a7, a8, a9, a10, a11, a12] w) : Run P ds c Q [a0, a1, a2, a3, a4, a5, a6, a7, a8, a9, a10, a11, a12] w := h
theorem nR14 {P : Program} {ds : List Deferred} {c : List Code} {Q : Post} {w : World} {a0 a1 a2 a3 a4 a5 a6 a7 a8 a9 a10 a11 a12 a13 : Value} (h : Run P ds c Q [a0, a1, a2, a3, a4, a5, a6, a7, a8, a9, a10, a11, a12, a13] w) : Run P ds c Q [a0, a1, a2, a3, a4, a5, a6, a7, a8, a9, a10, a11, a12, a13] w := h
theorem nR15 {P : Program} {ds : List Deferred} {c : List Code} {Q : Post} {w : World} {a0 a1 a2 a3 a4 a5 a6 a7 a8 a9 a10 a11 a12 a13 a14 : Value} (h : Run P ds c Q [a0, a1, a2, a3, a4, a5, a6, a7, a8, a9, a10, a11, a12, a13, a14] w) : Run P ds c Q [a0, a1, a2, a3, a4, a5, a6, a7, a8, a9, a10, a11, a12, a13, a14] w := h
theorem nR16 {P : Program} {ds : List Deferred} {c : List Code} {Q : Post} {w : World} {a0 a1 a2 a3 a4 a5 a6 a7 a8 a9 a10 a11 a12 a13 a14 a15 : Value} (h : Run P ds c Q [a0, a1, a2, a3, a4, a5, a6, a7, a8, a9, a10, a11, a12, a13, a14, a15] w) : Run P ds c Q [a0, a1, a2, a3, a4, a5, a6, a7, a8, a9, a10, a11, a12, a13, a14, a15] w := h
theorem nR17 {P : Program} {ds : List Deferred} {c : List Code} {Q : Post} {w : World} {a0 a1 a2 a3 a4 a5 a6 a7 a8 a9 a10 a11 a12 a13 a14 a15 a16 : Value} (h : Run P ds c Q [a0, a1, a2, a3, a4, a5, a6, a7, a8, a9, a10, a11, a12, a13, a14, a15, a16] w) : Run P ds c Q [a0, a1, a2, a3, a4, a5, a6, a7, a8, a9, a10, a11, a12, a13, a14, a15, a16] w := h
theorem nR19 {P : Program} {ds : List Deferred} {c : List Code} {Q : Post} {w : World} {a0 a1 a2 a3 a4 a5 a6 a7 a8 a9 a10 a11 a12 a13 a14 a15 a16 a17 a18 : Value} (h : Run P ds c Q [a0, a1, a2, a3, a4, a5, a6, a7, a8, a9, a10, a11, a12, a13, a14, a15, a16, a17, a18] w) : Run P ds c Q [a0, a1, a2, a3, a4, a5, a6, a7, a8, a9, a10, a11, a12, a13, a14, a15, a16, a17, a18] w := h
theorem nR20 {P : Program} {ds : List Deferred} {c : List Code} {Q : Post} {w : World} {a0 a1 a2 a3 a4 a5 a6 a7 a8 a9 a10 a11 a12 a13 a14 a15 a16 a17 a18 a19 : Value} (h : Run P ds c Q [a0, a1, a2, a3, a4, a5, a6, a7, a8, a9, a10, a11, a12, a13, a14, a15, a16, a17, a18, a19] w) : Run P ds c Q [a0, a1, a2, a3, a4, a5, a6, a7, a8, a9, a10, a11, a12, a13, a14, a15, a16, a17, a18, a19] w := h
theorem nR23 {P : Program} {ds : List Deferred} {c : List Code} {Q : Post} {w : World} {a0 a1 a2 a3 a4 a5 a6 a7 a8 a9 a10 a11 a12 a13 a14 a15 a16 a17 a18 a19 a20 a21 a22 : Value} (h : Run P ds c Q [a0, a1, a2, a3, a4, a5, a6, a7, a8, a9, a10, a11, a12, a13, a14, a15, a16, a17, a18, a19, a20, a21, a22] w) : Run P ds c Q [a0, a1, a2, a3, a4, a5, a6, a7, a8, a9, a10, a11, a12, a13, a14, a15, a16, a17, a18, a19, a20, a21, a22] w := h
theorem nR24 {P : Program} {ds : List Deferred} {c : List Code} {Q : Post} {w : World} {a0 a1 a2 a3 a4 a5 a6 a7 a8 a9 a10 a11 a12 a13 a14 a15 a16 a17 a18 a19 a20 a21 a22 a23 : Value} (h : Run P ds c Q [a0, a1, a2, a3, a4, a5, a6, a7, a8, a9, a10, a11, a12, a13, a14, a15, a16, a17, a18, a19, a20, a21, a22, a23] w) : Run P ds c Q [a0, a1, a2, a3, a4, a5, a6, a7, a8, a9, a10, a11, a12, a13, a14, a15, a16, a17, a18, a19, a20, a21, a22, a23] w := h
theorem nR25 {P : Program} {ds : List Deferred} {c : List Code} {Q : Post} {w : World} {a0 a1 a2 a3 a4 a5 a6 a7 a8 a9 a10 a11 a12 a13 a14 a15 a16 a17 a18 a19 a20 a21 a22 a23 a24 : Value} (h : Run P ds c Q [a0, a1, a2, a3, a4, a5, a6, a7, a8, a9, a10, a11, a12, a13, a14, a15, a16, a17, a18, a19, a20, a21, a22, a23, a24] w) : Run P ds c Q [a0, a1, a2, a3, a4, a5, a6, a7, a8, a9, a10, a11, a12, a13, a14, a15, a16, a17, a18, a19, a20, a21, a22, a23, a24] w := h
theorem nR26 {P : Program} {ds : List Deferred} {c : List Code} {Q : Post} {w : World} {a0 a1 a2 a3 a4 a5 a6 a7 a8 a9 a10 a11 a12 a13 a14 a15 a16 a17 a18 a19 a20 a21 a22 a23 a24 a25 : Value} (h : Run P ds c Q [a0, a1, a2, a3, a4, a5, a6, a7, a8, a9, a10, a11, a12, a13, a14, a15, a16, a17, a18, a19, a20, a21, a22, a23, a24, a25] w) : Run P ds c Q [a0, a1, a2, a3, a4, a5, a6, a7, a8, a9, a10, a11, a12, a13, a14, a15, a16, a17, a18, a19, a20, a21, a22, a23, a24, a25] w := h
theorem nR27 {P : Program} {ds : List Deferred} {c : List Code} {Q : Post} {w : World} {a0 a1 a2 a3 a4 a5 a6 a7 a8 a9 a10 a11 a12 a13 a14 a15 a16 a17 a18 a19 a20 a21 a22 a23 a24 a25 a26 : Value} (h : Run P ds c Q [a0, a1, a2, a3, a4, a5, a6, a7, a8, a9, a10, a11, a12, a13, a14, a15, a16, a17, a18, a19, a20, a21, a22, a23, a24, a25, a26] w) : Run P ds c Q [a0, a1, a2, a3, a4, a5, a6, a7, a8, a9, a10, a11, a12, a13, a14, a15, a16, a17, a18, a19, a20, a21, a22, a23, a24, a25, a26] w := h
theorem nR30 {P : Program} {ds : List Deferred} {c : List Code} {Q : Post} {w : World} {a0 a1 a2 a3 a4 a5 a6 a7 a8 a9 a10 a11 a12 a13 a14 a15 a16 a17 a18 a19 a20 a21 a22 a23 a24 a25 a26 a27 a28 a29 : Value} (h : Run P ds c Q [a0, a1, a2, a3, a4, a5, a6, a7, a8, a9, a10, a11, a12, a13, a14, a15, a16, a17, a18, a19, a20, a21, a22, a23, a24, a25, a26, a27, a28, a29] w) : Run P ds c Q [a0, a1, a2, a3, a4, a5, a6, a7, a8, a9, a10, a11, a12, a13, a14, a15, a16, a17, a18, a19, a20, a21, a22, a23, a24, a25, a26, a27, a28, a29] w := h
theorem nR31 {P : Program} {ds : List Deferred} {c : List Code} {Q : Post} {w : World} {a0 a1 a2 a3 a4 a5 a6 a7 a8 a9 a10 a11 a12 a13 a14 a15 a16 a17 a18 a19 a20 a21 a22 a23 a24 a25 a26 a27 a28 a29 a30 : Value} (h : Run P ds c Q [a0, a1, a2, a3, a4, a5, a6, a7, a8, a9, a10, a11, a12, a13, a14, a15, a16, a17, a18, a19, a20, a21, a22, a23, a24, a25, a26, a27, a28, a29, a30] w) : Run P ds c Q [a0, a1, a2, a3, a4, a5, a6, a7, a8, a9, a10, a11, a12, a13, a14, a15, a16, a17, a18, a19, a20, a21, a22, a23, a24, a25, a26, a27, a28, a29, a30] w := h
theorem nR34 {P : Program} {ds : List Deferred} {c : List Code} {Q : Post} {w : World} {a0 a1 a2 a3 a4 a5 a6 a7 a8 a9 a10 a11 a12 a13 a14 a15 a16 a17 a18 a19 a20 a21 a22 a23 a24 a25 a26 a27 a28 a29 a30 a31 a32 a33 : Value} (h : Run P ds c Q [a0, a1, a2, a3, a4, a5, a6, a7, a8, a9, a10, a11, a12, a13, a14, a15, a16, a17, a18, a19, a20, a21, a22, a23, a24, a25, a26, a27, a28, a29, a30, a31, a32, a33] w) : Run P ds c Q [a0, a1, a2, a3, a4, a5, a6, a7, a8, a9, a10, a11, a12, a13, a14, a15, a16, a17, a18, a19, a20, a21, a22, a23, a24, a25, a26, a27, a28, a29, a30, a31, a32, a33] w := h
theorem nR38 {P : Program} {ds : List Deferred} {c : List Code} {Q : Post} {w : World} {a0 a1 a2 a3 a4 a5 a6 a7 a8 a9 a10 a11 a12 a13 a14 a15 a16 a17 a18 a19 a20 a21 a22 a23 a24 a25 a26 a27 a28 a29 a30 a31 a32 a33 a34 a35 a36 a37 : Value} (h : Run P ds c Q [a0, a1, a2, a3, a4, a5, a6, a7, a8, a9, a10, a11, a12, a13, a14, a15, a16, a17, a18, a19, a20, a21, a22, a23, a24, a25, a26, a27, a28, a29, a30, a31, a32, a33, a34, a35, a36, a37] w) : Run P ds c Q [a0, a1, a2, a3, a4, a5, a6, a7, a8, a9, a10, a11, a12, a13, a14, a15, a16, a17, a18, a19, a20, a21, a22, a23, a24, a25, a26, a27, a28, a29, a30, a31, a32, a33, a34, a35, a36, a37] w := h
theorem nR42 {P : Program} {ds : List Deferred} {c : List Code} {Q : Post} {w : World} {a0 a1 a2 a3 a4 a5 a6 a7 a8 a9 a10 a11 a12 a13 a14 a15 a16 a17 a18 a19 a20 a21 a22 a23 a24 a25 a26 a27 a28 a29 a30 a31 a32 a33 a34 a35 a36 a37 a38 a39 a40 a41 : Value} (h : Run P ds c Q [a0, a1, a2, a3, a4, a5, a6, a7, a8, a9, a10, a11, a12, a13, a14, a15, a16, a17, a18, a19, a20, a21, a22, a23, a24, a25, a26, a27, a28, a29, a30, a31, a32, a33, a34, a35, a36, a37, a38, a39, a40, a41] w) : Run P ds c Q [a0, a1, a2, a3, a4, a5, a6, a7, a8, a9, a10, a11, a12, a13, a14, a15, a16, a17, a18, a19, a20, a21, a22, a23, a24, a25, a26, a27, a28, a29, a30, a31, a32, a33, a34, a35, a36, a37, a38, a39, a40, a41] w := h
theorem nR43 {P : Program} {ds : List Deferred} {c : List Code} {Q : Post} {w : World} {a0 a1 a2 a3 a4 a5 a6 a7 a8 a9 a10 a11 a12 a13 a14 a15 a16 a17 a18 a19 a20 a21 a22 a23 a24 a25 a26 a27 a28 a29 a30 a31 a32 a33 a34 a35 a36 a37 a38 a39 a40 a41 a42 : Value} (h : Run P ds c Q [a0, a1, a2, a3, a4, a5, a6, a7, a8, a9, a10, a11, a12, a13, a14, a15, a16, a17, a18, a19, a20, a21, a22, a23, a24, a25, a26, a27, a28, a29, a30, a31, a32, a33, a34, a35, a36, a37, a38, a39, a40, a41, a42] w) : Run P ds c Q [a0, a1, a2, a3, a4, a5, a6, a7, a8, a9, a10, a11, a12, a13, a14, a15, a16, a17, a18, a19, a20, a21, a22, a23, a24, a25, a26, a27, a28, a29, a30, a31, a32, a33, a34, a35, a36, a37, a38, a39, a40, a41, a42] w := h
theorem nR49 {P : Program} {ds : List Deferred} {c : List Code} {Q : Post} {w : World} {a0 a1 a2 a3 a4 a5 a6 a7 a8 a9 a10 a11 a12 a13 a14 a15 a16 a17 a18 a19 a20 a21 a22 a23 a24 a25 a26 a27 a28 a29 a30 a31 a32 a33 a34 a35 a36 a37 a38 a39 a40 a41 a42 a43 a44 a45 a46 a47 a48 : Value} (h : Run P ds c Q [a0, a1, a2, a3, a4, a5, a6, a7, a8, a9, a10, a11, a12, a13, a14, a15, a16, a17, a18, a19, a20, a21, a22, a23, a24, a25, a26, a27, a28, a29, a30, a31, a32, a33, a34, a35, a36, a37, a38, a39, a40, a41, a42, a43, a44, a45, a46, a47, a48] w) : Run P ds c Q [a0, a1, a2, a3, a4, a5, a6, a7, a8, a9, a10, a11, a12, a13, a14, a15, a16, a17, a18, a19, a20, a21, a22, a23, a24, a25, a26, a27, a28, a29, a30, a31, a32, a33, a34, a35, a36, a37, a38, a39, a40, a41, a42, a43, a44, a45, a46, a47, a48] w := h
theorem nR50 {P : Program} {ds : List Deferred} {c : List Code} {Q : Post} {w : World} {a0 a1 a2 a3 a4 a5 a6 a7 a8 a9 a10 a11 a12 a13 a14 a15 a16 a17 a18 a19 a20 a21 a22 a23 a24 a25 a26 a27 a28 a29 a30 a31 a32 a33 a34 a35 a36 a37 a38 a39 a40 a41 a42 a43 a44 a45 a46 a47 a48 a49 : Value} (h : Run P ds c Q [a0, a1, a2, a3, a4, a5, a6, a7, a8, a9, a10, a11, a12, a13, a14, a15, a16, a17, a18, a19, a20, a21, a22, a23, a24, a25, a26, a27, a28, a29, a30, a31, a32, a33, a34, a35, a36, a37, a38, a39, a40, a41, a42, a43, a44, a45, a46, a47, a48, a49] w) : Run P ds c Q [a0, a1, a2, a3, a4, a5, a6, a7, a8, a9, a10, a11, a12, a13, a14, a15, a16, a17, a18, a19, a20, a21, a22, a23, a24, a25, a26, a27, a28, a29, a30, a31, a32, a33, a34, a35, a36, a37, a38, a39, a40, a41, a42, a43, a44, a45, a46, a47, a48, a49] w := h
theorem nR53 {P : Program} {ds : List Deferred} {c : List Code} {Q : Post} {w : World} {a0 a1 a2 a3 a4 a5 a6 a7 a8 a9 a10 a11 a12 a13 a14 a15 a16 a17 a18 a19 a20 a21 a22 a23 a24 a25 a26 a27 a28 a29 a30 a31 a32 a33 a34 a35 a36 a37 a38 a39 a40 a41 a42 a43 a44 a45 a46 a47 a48 a49 a50 a51 a52 : Value} (h : Run P ds c Q [a0, a1, a2, a3, a4, a5, a6, a7, a8, a9, a10, a11, a12, a13, a14, a15, a16, a17, a18, a19, a20, a21, a22, a23, a24, a25, a26, a27, a28, a29, a30, a31, a32, a33, a34, a35, a36, a37, a38, a39, a40, a41, a42, a43, a44, a45, a46, a47, a48, a49, a50, a51, a52] w) : Run P ds c Q [a0, a1, a2, a3, a4, a5, a6, a7, a8, a9, a10, a11, a12, a13, a14, a15, a16, a17, a18, a19, a20, a21, a22, a23, a24, a25, a26, a27, a28, a29, a30, a31, a32, a33, a34, a35, a36, a37, a38, a39, a40, a41, a42, a43, a44, a45, a46, a47, a48, a49, a50, a51, a52] w := h
theorem nR58 {P : Program} {ds : List Deferred} {c : List Code} {Q : Post} {w : World} {a0 a1 a2 a3 a4 a5 a6 a7 a8 a9 a10 a11 a12 a13 a14 a15 a16 a17 a18 a19 a20 a21 a22 a23 a24 a25 a26 a27 a28 a29 a30 a31 a32 a33 a34 a35 a36 a37 a38 a39 a40 a41 a42 a43 a44 a45 a46 a47 a48 a49 a50 a51 a52 a53 a54 a55 a56 a57 : Value} (h : Run P ds c Q [a0, a1, a2, a3, a4, a5, a6, a7, a8, a9, a10, a11, a12, a13, a14, a15, a16, a17, a18, a19, a20, a21, a22, a23, a24, a25, a26, a27, a28, a29, a30, a31, a32, a33, a34, a35, a36, a37, a38, a39, a40, a41, a42, a43, a44, a45, a46, a47, a48, a49, a50, a51, a52, a53, a54, a55, a56, a57] w) : Run P ds c Q [a0, a1, a2, a3, a4, a5, a6, a7, a8, a9, a10, a11, a12, a13, a14, a15, a16, a17, a18, a19, a20, a21, a22, a23, a24, a25, a26, a27, a28, a29, a30, a31, a32, a33, a34, a35, a36, a37, a38, a39, a40, a41, a42, a43, a44, a45, a46, a47, a48, a49, a50, a51, a52, a53, a54, a55, a56, a57] w := h
theorem nR66 {P : Program} {ds : List Deferred} {c : List Code} {Q : Post} {w : World} {a0 a1 a2 a3 a4 a5 a6 a7 a8 a9 a10 a11 a12 a13 a14 a15 a16 a17 a18 a19 a20 a21 a22 a23 a24 a25 a26 a27 a28 a29 a30 a31 a32 a33 a34 a35 a36 a37 a38 a39 a40 a41 a42 a43 a44 a45 a46 a47 a48 a49 a50 a51 a52 a53 a54 a55 a56 a57 a58 a59 a60 a61 a62 a63 a64 a65 : Value} (h : Run P ds c Q [a0, a1, a2, a3, a4, a5, a6, a7, a8, a9, a10, a11, a12, a13, a14, a15, a16, a17, a18, a19, a20, a21, a22, a23, a24, a25, a26, a27, a28, a29, a30, a31, a32, a33, a34, a35, a36, a37, a38, a39, a40, a41, a42, a43, a44, a45, a46, a47, a48, a49, a50, a51, a52, a53, a54, a55, a56, a57, a58, a59, a60, a61, a62, a63, a64, a65] w) : Run P ds c Q [a0, a1, a2, a3, a4, a5, a6, a7, a8, a9, a10, a11, a12, a13, a14, a15, a16, a17, a18, a19, a20, a21, a22, a23, a24, a25, a26, a27, a28, a29, a30, a31, a32, a33, a34, a35, a36, a37, a38, a39, a40, a41, a42, a43, a44, a45, a46, a47, a48, a49, a50, a51, a52, a53, a54, a55, a56, a57, a58, a59, a60, a61, a62, a63, a64, a65] w := h
theorem nR67 {P : Program} {ds : List Deferred} {c : List Code} {Q : Post} {w : World} {a0 a1 a2 a3 a4 a5 a6 a7 a8 a9 a10 a11 a12 a13 a14 a15 a16 a17 a18 a19 a20 a21 a22 a23 a24 a25 a26 a27 a28 a29 a30 a31 a32 a33 a34 a35 a36 a37 a38 a39 a40 a41 a42 a43 a44 a45 a46 a47 a48 a49 a50 a51 a52 a53 a54 a55 a56 a57 a58 a59 a60 a61 a62 a63 a64 a65 a66 : Value} (h : Run P ds c Q [a0, a1, a2, a3, a4, a5, a6, a7, a8, a9, a10, a11, a12, a13, a14, a15, a16, a17, a18, a19, a20, a21, a22, a23, a24, a25, a26, a27, a28, a29, a30, a31, a32, a33, a34, a35, a36, a37, a38, a39, a40, a41, a42, a43, a44, a45, a46, a47, a48, a49, a50, a51, a52, a53, a54, a55, a56, a57, a58, a59, a60, a61, a62, a63, a64, a65, a66] w) : Run P ds c Q [a0, a1, a2, a3, a4, a5, a6, a7, a8, a9, a10, a11, a12, a13, a14, a15, a16, a17, a18, a19, a20, a21, a22, a23, a24, a25, a26, a27, a28, a29, a30, a31, a32, a33, a34, a35, a36, a37, a38, a39, a40, a41, a42, a43, a44, a45, a46, a47, a48, a49, a50, a51, a52, a53, a54, a55, a56, a57, a58, a59, a60, a61, a62, a63, a64, a65, a66] w := h
theorem nR74 {P : Program} {ds : List Deferred} {c : List Code} {Q : Post} {w : World} {a0 a1 a2 a3 a4 a5 a6 a7 a8 a9 a10 a11 a12 a13 a14 a15 a16 a17 a18 a19 a20 a21 a22 a23 a24 a25 a26 a27 a28 a29 a30 a31 a32 a33 a34 a35 a36 a37 a38 a39 a40 a41 a42 a43 a44 a45 a46 a47 a48 a49 a50 a51 a52 a53 a54 a55 a56 a57 a58 a59 a60 a61 a62 a63 a64 a65 a66 a67 a68 a69 a70 a71 a72 a73 : Value} (h : Run P ds c Q [a0, a1, a2, a3, a4, a5, a6, a7, a8, a9, a10, a11, a12, a13, a14, a15, a16, a17, a18, a19, a20, a21, a22, a23, a24, a25, a26, a27, a28, a29, a30, a31, a32, a33, a34, a35, a36, a37, a38, a39, a40, a41, a42, a43, a44, a45, a46, a47, a48, a49, a50, a51, a52, a53, a54, a55, a56, a57, a58, a59, a60, a61, a62, a63, a64, a65, a66, a67, a68, a69, a70, a71, a72, a73] w) : Run P ds c Q [a0, a1, a2, a3, a4, a5, a6, a7, a8, a9, a10, a11, a12, a13, a14, a15, a16, a17, a18, a19, a20, a21, a22, a23, a24, a25, a26, a27, a28, a29, a30, a31, a32, a33, a34, a35, a36, a37, a38, a39, a40, a41, a42, a43, a44, a45, a46, a47, a48, a49, a50, a51, a52, a53, a54, a55, a56, a57, a58, a59, a60, a61, a62, a63, a64, a65, a66, a67, a68, a69, a70, a71, a72, a73] w := h
theorem nR82 {P : Program} {ds : List Deferred} {c : List Code} {Q : Post} {w : World} {a0 a1 a2 a3 a4 a5 a6 a7 a8 a9 a10 a11 a12 a13 a14 a15 a16 a17 a18 a19 a20 a21 a22 a23 a24 a25 a26 a27 a28 a29 a30 a31 a32 a33 a34 a35 a36 a37 a38 a39 a40 a41 a42 a43 a44 a45 a46 a47 a48 a49 a50 a51 a52 a53 a54 a55 a56 a57 a58 a59 a60 a61 a62 a63 a64 a65 a66 a67 a68 a69 a70 a71 a72 a73 a74 a75 a76 a77 a78 a79 a80 a81 : Value} (h : Run P ds c Q [a0, a1, a2, a3, a4, a5, a6, a7, a8, a9, a10, a11, a12, a13, a14, a15, a16, a17, a18, a19, a20, a21, a22, a23, a24, a25, a26, a27, a28, a29, a30, a31, a32, a33, a34, a35, a36, a37, a38, a39, a40, a41, a42, a43, a44, a45, a46, a47, a48, a49, a50, a51, a52, a53, a54, a55, a56, a57, a58, a59, a60, a61, a62, a63, a64, a65, a66, a67, a68, a69, a70, a71, a72, a73, a74, a75, a76, a77, a78, a79, a80, a81] w) : Run P ds c Q [a0, a1, a2, a3, a4, a5, a6, a7, a8, a9, a10, a11, a12, a13, a14, a15, a16, a17, a18, a19, a20, a21, a22, a23, a24, a25, a26, a27, a28, a29, a30, a31, a32, a33, a34, a35, a36, a37, a38, a39, a40, a41, a42, a43, a44, a45, a46, a47, a48, a49, a50, a51, a52, a53, a54, a55, a56, a57, a58, a59, a60, a61, a62, a63, a64, a65, a66, a67, a68, a69, a70, a71, a72, a73, a74, a75, a76, a77, a78, a79, a80, a81] w := h
theorem nR85 {P : Program} {ds : List Deferred} {c : List Code} {Q : Post} {w : World} {a0 a1 a2 a3 a4 a5 a6 a7 a8 a9 a10 a11 a12 a13 a14 a15 a16 a17 a18 a19 a20 a21 a22 a23 a24 a25 a26 a27 a28 a29 a30 a31 a32 a33 a34 a35 a36 a37 a38 a39 a40 a41 a42 a43 a44 a45 a46 a47 a48 a49 a50 a51 a52 a53 a54 a55 a56 a57 a58 a59 a60 a61 a62 a63 a64 a65 a66 a67 a68 a69 a70 a71 a72 a73 a74 a75 a76 a77 a78 a79 a80 a81 a82 a83 a84 : Value} (h : Run P ds c Q [a0, a1, a2, a3, a4, a5, a6, a7, a8, a9, a10, a11, a12, a13, a14, a15, a16, a17, a18, a19, a20, a21, a22, a23, a24, a25, a26, a27, a28, a29, a30, a31, a32, a33, a34, a35, a36, a37, a38, a39, a40, a41, a42, a43, a44, a45, a46, a47, a48, a49, a50, a51, a52, a53, a54, a55, a56, a57, a58, a59, a60, a61, a62, a63, a64, a65, a66, a67, a68, a69, a70, a71, a72, a73, a74, a75, a76, a77, a78, a79, a80, a81, a82, a83, a84] w) : Run P ds c Q [a0, a1, a2, a3, a4, a5, a6, a7, a8, a9, a10, a11, a12, a13, a14, a15, a16, a17, a18, a19, a20, a21, a22, a23, a24, a25, a26, a27, a28, a29, a30, a31, a32, a33, a34, a35, a36, a37, a38, a39, a40, a41, a42, a43, a44, a45, a46, a47, a48, a49, a50, a51, a52, a53, a54, a55, a56, a57, a58, a59, a60, a61, a62, a63, a64, a65, a66, a67, a68, a69, a70, a71, a72, a73, a74, a75, a76, a77, a78, a79, a80, a81, a82, a83, a84] w := h
theorem nR95 {P : Program} {ds : List Deferred} {c : List Code} {Q : Post} {w : World} {a0 a1 a2 a3 a4 a5 a6 a7 a8 a9 a10 a11 a12 a13 a14 a15 a16 a17 a18 a19 a20 a21 a22 a23 a24 a25 a26 a27 a28 a29 a30 a31 a32 a33 a34 a35 a36 a37 a38 a39 a40 a41 a42 a43 a44 a45 a46 a47 a48 a49 a50 a51 a52 a53 a54 a55 a56 a57 a58 a59 a60 a61 a62 a63 a64 a65 a66 a67 a68 a69 a70 a71 a72 a73 a74 a75 a76 a77 a78 a79 a80 a81 a82 a83 a84 a85 a86 a87 a88 a89 a90 a91 a92 a93 a94 : Value} (h : Run P ds c Q [a0, a1, a2, a3, a4, a5, a6, a7, a8, a9, a10, a11, a12, a13, a14, a15, a16, a17, a18, a19, a20, a21, a22, a23, a24, a25, a26, a27, a28, a29, a30, a31, a32, a33, a34, a35, a36, a37, a38, a39, a40, a41, a42, a43, a44, a45, a46, a47, a48, a49, a50, a51, a52, a53, a54, a55, a56, a57, a58, a59, a60, a61, a62, a63, a64, a65, a66, a67, a68, a69, a70, a71, a72, a73, a74, a75, a76, a77, a78, a79, a80, a81, a82, a83, a84, a85, a86, a87, a88, a89, a90, a91, a92, a93, a94] w) : Run P ds c Q [a0, a1, a2, a3, a4, a5, a6, a7, a8, a9, a10, a11, a12, a13, a14, a15, a16, a17, a18, a19, a20, a21, a22, a23, a24, a25, a26, a27, a28, a29, a30, a31, a32, a33, a34, a35, a36, a37, a38, a39, a40, a41, a42, a43, a44, a45, a46, a47, a48, a49, a50, a51, a52, a53, a54, a55, a56, a57, a58, a59, a60, a61, a62, a63, a64, a65, a66, a67, a68, a69, a70, a71, a72, a73, a74, a75, a76, a77, a78, a79, a80, a81, a82, a83, a84, a85, a86, a87, a88, a89, a90, a91, a92, a93, a94] w := h
theorem nR98 {P : Program} {ds : List Deferred} {c : List Code} {Q : Post} {w : World} {a0 a1 a2 a3 a4 a5 a6 a7 a8 a9 a10 a11 a12 a13 a14 a15 a16 a17 a18 a19 a20 a21 a22 a23 a24 a25 a26 a27 a28 a29 a30 a31 a32 a33 a34 a35 a36 a37 a38 a39 a40 a41 a42 a43 a44 a45 a46 a47 a48 a49 a50 a51 a52 a53 a54 a55 a56 a57 a58 a59 a60 a61 a62 a63 a64 a65 a66 a67 a68 a69 a70 a71 a72 a73 a74 a75 a76 a77 a78 a79 a80 a81 a82 a83 a84 a85 a86 a87 a88 a89 a90 a91 a92 a93 a94 a95 a96 a97 : Value} (h : Run P ds c Q [a0, a1, a2, a3, a4, a5, a6, a7, a8, a9, a10, a11, a12, a13, a14, a15, a16, a17, a18, a19, a20, a21, a22, a23, a24, a25, a26, a27, a28, a29, a30, a31, a32, a33, a34, a35, a36, a37, a38, a39, a40, a41, a42, a43, a44, a45, a46, a47, a48, a49, a50, a51, a52, a53, a54, a55, a56, a57, a58, a59, a60, a61, a62, a63, a64, a65, a66, a67, a68, a69, a70, a71, a72, a73, a74, a75, a76, a77, a78, a79, a80, a81, a82, a83, a84, a85, a86, a87, a88, a89, a90, a91, a92, a93, a94, a95, a96, a97] w) : Run P ds c Q [a0, a1, a2, a3, a4, a5, a6, a7, a8, a9, a10, a11, a12, a13, a14, a15, a16, a17, a18, a19, a20, a21, a22, a23, a24, a25, a26, a27, a28, a29, a30, a31, a32, a33, a34, a35, a36, a37, a38, a39, a40, a41, a42, a43, a44, a45, a46, a47, a48, a49, a50, a51, a52, a53, a54, a55, a56, a57, a58, a59, a60, a61, a62, a63, a64, a65, a66, a67, a68, a69, a70, a71, a72, a73, a74, a75, a76, a77, a78, a79, a80, a81, a82, a83, a84, a85, a86, a87, a88, a89, a90, a91, a92, a93, a94, a95, a96, a97] w := h
theorem nR115 {P : Program} {ds : List Deferred} {c : List Code} {Q : Post} {w : World} {a0 a1 a2 a3 a4 a5 a6 a7 a8 a9 a10 a11 a12 a13 a14 a15 a16 a17 a18 a19 a20 a21 a22 a23 a24 a25 a26 a27 a28 a29 a30 a31 a32 a33 a34 a35 a36 a37 a38 a39 a40 a41 a42 a43 a44 a45 a46 a47 a48 a49 a50 a51 a52 a53 a54 a55 a56 a57 a58 a59 a60 a61 a62 a63 a64 a65 a66 a67 a68 a69 a70 a71 a72 a73 a74 a75 a76 a77 a78 a79 a80 a81 a82 a83 a84 a85 a86 a87 a88 a89 a90 a91 a92 a93 a94 a95 a96 a97 a98 a99 a100 a101 a102 a103 a104 a105 a106 a107 a108 a109 a110 a111 a112 a113 a114 : Value} (h : Run P ds c Q [a0, a1, a2, a3, a4, a5, a6, a7, a8, a9, a10, a11, a12, a13, a14, a15, a16, a17, a18, a19, a20, a21, a22, a23, a24, a25, a26, a27, a28, a29, a30, a31, a32, a33, a34, a35, a36, a37, a38, a39, a40, a41, a42, a43, a44, a45, a46, a47, a48, a49, a50, a51, a52, a53, a54, a55, a56, a57, a58, a59, a60, a61, a62, a63, a64, a65, a66, a67, a68, a69, a70, a71, a72, a73, a74, a75, a76, a77, a78, a79, a80, a81, a82, a83, a84, a85, a86, a87, a88, a89, a90, a91, a92, a93, a94, a95, a96, a97, a98, a99, a100, a101, a102, a103, a104, a105, a106, a107, a108, a109, a110, a111, a112, a113, a114] w) : Run P ds c Q [a0, a1, a2, a3, a4, a5, a6, a7, a8, a9, a10, a11, a12, a13, a14, a15, a16, a17, a18, a19, a20, a21, a22, a23, a24, a25, a26, a27, a28, a29, a30, a31, a32, a33, a34, a35, a36, a37, a38, a39, a40, a41, a42, a43, a44, a45, a46, a47, a48, a49, a50, a51, a52, a53, a54, a55, a56, a57, a58, a59, a60, a61, a62, a63, a64, a65, a66, a67, a68, a69, a70, a71, a72, a73, a74, a75, a76, a77, a78, a79, a80, a81, a82, a83, a84, a85, a86, a87, a88, a89, a90, a91, a92, a93, a94, a95, a96, a97, a98, a99, a100, a101, a102, a103, a104, a105, a106, a107, a108, a109, a110, a111, a112, a113, a114] w := h
theorem nS26 {P : Program} {ds : List Deferred} {o : List Oper} {w : World} {K : List Value → Prop} {p : List Oper} {a0 a1 a2 a3 a4 a5 a6 a7 a8 a9 a10 a11 a12 a13 a14 a15 a16 a17 a18 a19 a20 a21 a22 a23 a24 a25 : Value} (h : Still P ds o w K p [a0, a1, a2, a3, a4, a5, a6, a7, a8, a9, a10, a11, a12, a13, a14, a15, a16, a17, a18, a19, a20, a21, a22, a23, a24, a25]) : Still P ds o w K p [a0, a1, a2, a3, a4, a5, a6, a7, a8, a9, a10, a11, a12, a13, a14, a15, a16, a17, a18, a19, a20, a21, a22, a23, a24, a25] := h
theorem nS98 {P : Program} {ds : List Deferred} {o : List Oper} {w : World} {K : List Value → Prop} {p : List Oper} {a0 a1 a2 a3 a4 a5 a6 a7 a8 a9 a10 a11 a12 a13 a14 a15 a16 a17 a18 a19 a20 a21 a22 a23 a24 a25 a26 a27 a28 a29 a30 a31 a32 a33 a34 a35 a36 a37 a38 a39 a40 a41 a42 a43 a44 a45 a46 a47 a48 a49 a50 a51 a52 a53 a54 a55 a56 a57 a58 a59 a60 a61 a62 a63 a64 a65 a66 a67 a68 a69 a70 a71 a72 a73 a74 a75 a76 a77 a78 a79 a80 a81 a82 a83 a84 a85 a86 a87 a88 a89 a90 a91 a92 a93 a94 a95 a96 a97 : Value} (h : Still P ds o w K p [a0, a1, a2, a3, a4, a5, a6, a7, a8, a9, a10, a11, a12, a13, a14, a15, a16, a17, a18, a19, a20, a21, a22, a23, a24, a25, a26, a27, a28, a29, a30, a31, a32, a33, a34, a35, a36, a37, a38, a39, a40, a41, a42, a43, a44, a45, a46, a47, a48, a49, a50, a51, a52, a53, a54, a55, a56, a57, a58, a59, a60, a61, a62, a63, a64, a65, a66, a67, a68, a69, a70, a71, a72, a73, a74, a75, a76, a77, a78, a79, a80, a81, a82, a83, a84, a85, a86, a87, a88, a89, a90, a91, a92, a93, a94, a95, a96, a97]) : Still P ds o w K p [a0, a1, a2, a3, a4, a5, a6, a7, a8, a9, a10, a11, a12, a13, a14, a15, a16, a17, a18, a19, a20, a21, a22, a23, a24, a25, a26, a27, a28, a29, a30, a31, a32, a33, a34, a35, a36, a37, a38, a39, a40, a41, a42, a43, a44, a45, a46, a47, a48, a49, a50, a51, a52, a53, a54, a55, a56, a57, a58, a59, a60, a61, a62, a63, a64, a65, a66, a67, a68, a69, a70, a71, a72, a73, a74, a75, a76, a77, a78, a79, a80, a81, a82, a83, a84, a85, a86, a87, a88, a89, a90, a91, a92, a93, a94, a95, a96, a97] := h
end Go.Proofs.YtjoeklkmnfaabaaGreat
/- The types of this seat, each a closed fact. Printed by wip/gen/types.py. -/
namespace Go.Proofs.YtjoeklkmnfaabaaGreat
open Go
theorem ty2 : TyOk Tryz.prog 2 [.int .i64 0] 1 8 false := tyOk (by kernel_rfl)
theorem ty3 : TyOk Tryz.prog 3 [.int .i64 0] 1 8 false := tyOk (by kernel_rfl)
theorem ty4 : TyOk Tryz.prog 4 [.bool false] 1 1 false := tyOk (by kernel_rfl)
theorem ty5 : TyOk Tryz.prog 5 [.int .u8 0] 1 1 false := tyOk (by kernel_rfl)
theorem ty9 : TyOk Tryz.prog 9 [.string .empty] 1 16 false := tyOk (by kernel_rfl)
theorem ty23 : TyOk Tryz.prog 23 [.pointer none] 1 8 false := tyOk (by kernel_rfl)
theorem ty24 : TyOk Tryz.prog 24 [.int .i64 0] 1 8 false := tyOk (by kernel_rfl)
theorem ty35 : TyOk Tryz.prog 35 [.int .i64 0, .string .empty, .int .i64 0, .int .i64 0] 4 40 true := tyOk (by kernel_rfl)
theorem fl35_0 : fieldOf Tryz.prog 35 0 = some (0, 3) := by kernel_rfl
theorem fl35_1 : fieldOf Tryz.prog 35 1 = some (1, 9) := by kernel_rfl
theorem fl35_2 : fieldOf Tryz.prog 35 2 = some (2, 3) := by kernel_rfl
theorem ty37 : TyOk Tryz.prog 37 [.slice none 0 0] 1 24 false := tyOk (by kernel_rfl)
theorem ty38 : TyOk Tryz.prog 38 [.slice none 0 0] 1 24 false := tyOk (by kernel_rfl)
theorem ty39 : TyOk Tryz.prog 39 [.slice none 0 0] 1 24 false := tyOk (by kernel_rfl)
theorem ty41 : TyOk Tryz.prog 41 [.slice none 0 0, .slice none 0 0, .slice none 0 0] 3 72 true := tyOk (by kernel_rfl)
theorem fl41_0 : fieldOf Tryz.prog 41 0 = some (0, 37) := by kernel_rfl
theorem fl41_1 : fieldOf Tryz.prog 41 1 = some (1, 38) := by kernel_rfl
theorem fl41_2 : fieldOf Tryz.prog 41 2 = some (2, 39) := by kernel_rfl
theorem ty65 : TyOk Tryz.prog 65 [.pointer none] 1 8 false := tyOk (by kernel_rfl)
theorem ty73 : TyOk Tryz.prog 73 [.slice none 0 0] 1 24 false := tyOk (by kernel_rfl)
theorem ty75 : TyOk Tryz.prog 75 [.int .i64 0, .int .i64 0] 2 16 true := tyOk (by kernel_rfl)
theorem fl75_0 : fieldOf Tryz.prog 75 0 = some (0, 3) := by kernel_rfl
theorem fl75_1 : fieldOf Tryz.prog 75 1 = some (1, 3) := by kernel_rfl
theorem ty77 : TyOk Tryz.prog 77 [.int .i64 0, .int .i64 0, .int .i64 0, .slice none 0 0] 4 48 true := tyOk (by kernel_rfl)
theorem fl77_0 : fieldOf Tryz.prog 77 0 = some (0, 3) := by kernel_rfl
theorem fl77_1 : fieldOf Tryz.prog 77 1 = some (1, 75) := by kernel_rfl
theorem fl77_2 : fieldOf Tryz.prog 77 2 = some (3, 73) := by kernel_rfl
theorem ty79 : TyOk Tryz.prog 79 [.int .i64 0, .slice none 0 0] 2 32 true := tyOk (by kernel_rfl)
theorem fl79_0 : fieldOf Tryz.prog 79 0 = some (0, 3) := by kernel_rfl
theorem fl79_1 : fieldOf Tryz.prog 79 1 = some (1, 73) := by kernel_rfl
theorem ty81 : TyOk Tryz.prog 81 [.int .i64 0, .int .i64 0, .int .i64 0, .int .i64 0, .int .i64 0, .int .i64 0, .int .i64 0, .slice none 0 0, .int .i64 0, .slice none 0 0, .int .i64 0, .string .empty, .int .i64 0, .int .i64 0, .int .i64 0, .int .i64 0] 16 168 true := tyOk (by kernel_rfl)
theorem fl81_0 : fieldOf Tryz.prog 81 0 = some (0, 3) := by kernel_rfl
theorem fl81_1 : fieldOf Tryz.prog 81 1 = some (1, 3) := by kernel_rfl
theorem fl81_2 : fieldOf Tryz.prog 81 2 = some (2, 75) := by kernel_rfl
theorem fl81_3 : fieldOf Tryz.prog 81 3 = some (4, 77) := by kernel_rfl
theorem fl81_4 : fieldOf Tryz.prog 81 4 = some (8, 79) := by kernel_rfl
theorem fl81_5 : fieldOf Tryz.prog 81 5 = some (10, 35) := by kernel_rfl
theorem fl81_6 : fieldOf Tryz.prog 81 6 = some (14, 3) := by kernel_rfl
theorem fl81_7 : fieldOf Tryz.prog 81 7 = some (15, 3) := by kernel_rfl
theorem ty86 : TyOk Tryz.prog 86 [.slice none 0 0] 1 24 false := tyOk (by kernel_rfl)
theorem ty87 : TyOk Tryz.prog 87 [.slice none 0 0] 1 24 false := tyOk (by kernel_rfl)
theorem ty89 : TyOk Tryz.prog 89 [.slice none 0 0, .slice none 0 0, .bool false, .int .i64 0] 4 64 true := tyOk (by kernel_rfl)
theorem fl89_0 : fieldOf Tryz.prog 89 0 = some (0, 86) := by kernel_rfl
theorem fl89_1 : fieldOf Tryz.prog 89 1 = some (1, 87) := by kernel_rfl
theorem fl89_2 : fieldOf Tryz.prog 89 2 = some (2, 4) := by kernel_rfl
theorem ty91 : TyOk Tryz.prog 91 [.int .u8 0, .int .u8 0, .int .u8 0, .int .u8 0, .int .u8 0, .int .u8 0, .int .u8 0, .int .u8 0, .int .u8 0, .int .u8 0, .int .u8 0, .int .u8 0, .int .u8 0, .int .u8 0, .int .u8 0, .int .u8 0, .int .u8 0, .int .u8 0, .int .u8 0, .int .u8 0, .int .u8 0, .int .u8 0, .int .u8 0, .int .u8 0, .int .u8 0, .int .u8 0, .int .u8 0, .int .u8 0, .int .u8 0, .int .u8 0, .int .u8 0, .int .u8 0, .int .u8 0, .int .u8 0, .int .u8 0, .int .u8 0, .int .u8 0, .int .u8 0, .int .u8 0, .int .u8 0, .int .u8 0, .int .u8 0, .int .u8 0, .int .u8 0, .int .u8 0, .int .u8 0, .int .u8 0, .int .u8 0, .int .u8 0, .int .u8 0, .int .u8 0, .int .u8 0, .int .u8 0, .int .u8 0, .int .u8 0, .int .u8 0, .int .u8 0, .int .u8 0, .int .u8 0, .int .u8 0, .int .u8 0, .int .u8 0, .int .u8 0, .int .u8 0] 64 64 true := tyOk (by kernel_rfl)
theorem ty93 : TyOk Tryz.prog 93 [.int .i64 0, .int .u8 0, .int .u8 0, .int .u8 0, .int .u8 0, .int .u8 0, .int .u8 0, .int .u8 0, .int .u8 0, .int .u8 0, .int .u8 0, .int .u8 0, .int .u8 0, .int .u8 0, .int .u8 0, .int .u8 0, .int .u8 0, .int .u8 0, .int .u8 0, .int .u8 0, .int .u8 0, .int .u8 0, .int .u8 0, .int .u8 0, .int .u8 0, .int .u8 0, .int .u8 0, .int .u8 0, .int .u8 0, .int .u8 0, .int .u8 0, .int .u8 0, .int .u8 0, .int .u8 0, .int .u8 0, .int .u8 0, .int .u8 0, .int .u8 0, .int .u8 0, .int .u8 0, .int .u8 0, .int .u8 0, .int .u8 0, .int .u8 0, .int .u8 0, .int .u8 0, .int .u8 0, .int .u8 0, .int .u8 0, .int .u8 0, .int .u8 0, .int .u8 0, .int .u8 0, .int .u8 0, .int .u8 0, .int .u8 0, .int .u8 0, .int .u8 0, .int .u8 0, .int .u8 0, .int .u8 0, .int .u8 0, .int .u8 0, .int .u8 0, .int .u8 0] 65 72 true := tyOk (by kernel_rfl)
theorem fl93_0 : fieldOf Tryz.prog 93 0 = some (0, 3) := by kernel_rfl
theorem fl93_1 : fieldOf Tryz.prog 93 1 = some (1, 91) := by kernel_rfl
theorem ty94 : TyOk Tryz.prog 94 [.slice none 0 0] 1 24 false := tyOk (by kernel_rfl)
theorem ty95 : TyOk Tryz.prog 95 [.slice none 0 0] 1 24 false := tyOk (by kernel_rfl)
theorem ty97 : TyOk Tryz.prog 97 [.int .i64 0, .int .i64 0, .slice none 0 0, .int .i64 0, .slice none 0 0, .slice none 0 0] 6 96 true := tyOk (by kernel_rfl)
theorem fl97_0 : fieldOf Tryz.prog 97 0 = some (0, 75) := by kernel_rfl
theorem fl97_1 : fieldOf Tryz.prog 97 1 = some (2, 94) := by kernel_rfl
theorem fl97_2 : fieldOf Tryz.prog 97 2 = some (3, 3) := by kernel_rfl
theorem fl97_3 : fieldOf Tryz.prog 97 3 = some (4, 73) := by kernel_rfl
theorem fl97_4 : fieldOf Tryz.prog 97 4 = some (5, 95) := by kernel_rfl
theorem ty110 : TyOk Tryz.prog 110 [.int .i64 0, .int .i64 0, .bool false, .int .i64 0, .int .i64 0, .int .i64 0, .int .i64 0] 7 56 true := tyOk (by kernel_rfl)
theorem fl110_0 : fieldOf Tryz.prog 110 0 = some (0, 3) := by kernel_rfl
theorem fl110_1 : fieldOf Tryz.prog 110 1 = some (1, 3) := by kernel_rfl
theorem fl110_2 : fieldOf Tryz.prog 110 2 = some (2, 4) := by kernel_rfl
theorem ty136 : TyOk Tryz.prog 136 [.nilFunc] 1 8 false := tyOk (by kernel_rfl)
theorem ty192 : TyOk Tryz.prog 192 [.nilFunc, .nilFunc, .nilFunc, .nilFunc, .nilFunc] 5 40 true := tyOk (by kernel_rfl)
theorem ty261 : TyOk Tryz.prog 261 [.map none] 1 8 false := tyOk (by kernel_rfl)
theorem ty263 : TyOk Tryz.prog 263 [.int .i64 0, .int .i64 0, .int .i64 0, .map none] 4 32 true := tyOk (by kernel_rfl)
theorem fl263_2 : fieldOf Tryz.prog 263 2 = some (3, 261) := by kernel_rfl
theorem gf7 : goFn Tryz.prog 7 = true := by kernel_rfl
theorem gf8 : goFn Tryz.prog 8 = true := by kernel_rfl
theorem gf9 : goFn Tryz.prog 9 = true := by kernel_rfl
theorem gf10 : goFn Tryz.prog 10 = true := by kernel_rfl
theorem gf11 : goFn Tryz.prog 11 = true := by kernel_rfl
theorem gf12 : goFn Tryz.prog 12 = true := by kernel_rfl
theorem gf13 : goFn Tryz.prog 13 = true := by kernel_rfl
theorem gf14 : goFn Tryz.prog 14 = true := by kernel_rfl
theorem gf15 : goFn Tryz.prog 15 = true := by kernel_rfl
theorem gf16 : goFn Tryz.prog 16 = true := by kernel_rfl
theorem gf28 : goFn Tryz.prog 28 = true := by kernel_rfl
theorem gf29 : goFn Tryz.prog 29 = true := by kernel_rfl
theorem gf32 : goFn Tryz.prog 32 = true := by kernel_rfl
theorem gf33 : goFn Tryz.prog 33 = true := by kernel_rfl
theorem gf38 : goFn Tryz.prog 38 = true := by kernel_rfl
theorem gf42 : goFn Tryz.prog 42 = true := by kernel_rfl
theorem gf43 : goFn Tryz.prog 43 = true := by kernel_rfl
theorem gf44 : goFn Tryz.prog 44 = true := by kernel_rfl
theorem gf45 : goFn Tryz.prog 45 = true := by kernel_rfl
theorem gf52 : goFn Tryz.prog 52 = true := by kernel_rfl
theorem gf62 : goFn Tryz.prog 62 = true := by kernel_rfl
theorem gf66 : goFn Tryz.prog 66 = true := by kernel_rfl
theorem gf67 : goFn Tryz.prog 67 = true := by kernel_rfl
theorem gf68 : goFn Tryz.prog 68 = true := by kernel_rfl
theorem gf69 : goFn Tryz.prog 69 = true := by kernel_rfl
theorem gf84 : goFn Tryz.prog 84 = true := by kernel_rfl
theorem gf85 : goFn Tryz.prog 85 = true := by kernel_rfl
theorem gf86 : goFn Tryz.prog 86 = true := by kernel_rfl
theorem gf87 : goFn Tryz.prog 87 = true := by kernel_rfl
theorem gf88 : goFn Tryz.prog 88 = true := by kernel_rfl
theorem gf89 : goFn Tryz.prog 89 = true := by kernel_rfl
theorem gf111 : goFn Tryz.prog 111 = true := by kernel_rfl
theorem gf112 : goFn Tryz.prog 112 = true := by kernel_rfl
theorem gf113 : goFn Tryz.prog 113 = true := by kernel_rfl
theorem gf114 : goFn Tryz.prog 114 = true := by kernel_rfl
theorem gf115 : goFn Tryz.prog 115 = true := by kernel_rfl
theorem gf116 : goFn Tryz.prog 116 = true := by kernel_rfl
theorem gf117 : goFn Tryz.prog 117 = true := by kernel_rfl
theorem gf118 : goFn Tryz.prog 118 = true := by kernel_rfl
theorem gf119 : goFn Tryz.prog 119 = true := by kernel_rfl
theorem gf120 : goFn Tryz.prog 120 = true := by kernel_rfl
theorem gf126 : goFn Tryz.prog 126 = true := by kernel_rfl
theorem gf127 : goFn Tryz.prog 127 = true := by kernel_rfl
theorem gf128 : goFn Tryz.prog 128 = true := by kernel_rfl
theorem gf129 : goFn Tryz.prog 129 = true := by kernel_rfl
theorem gf130 : goFn Tryz.prog 130 = true := by kernel_rfl
theorem gf152 : goFn Tryz.prog 152 = true := by kernel_rfl
theorem gf153 : goFn Tryz.prog 153 = true := by kernel_rfl
theorem gf154 : goFn Tryz.prog 154 = true := by kernel_rfl
theorem gf155 : goFn Tryz.prog 155 = true := by kernel_rfl
theorem gf156 : goFn Tryz.prog 156 = true := by kernel_rfl
theorem gf157 : goFn Tryz.prog 157 = true := by kernel_rfl
theorem gf158 : goFn Tryz.prog 158 = true := by kernel_rfl
theorem gf159 : goFn Tryz.prog 159 = true := by kernel_rfl
theorem gf162 : goFn Tryz.prog 162 = true := by kernel_rfl
theorem gf163 : goFn Tryz.prog 163 = true := by kernel_rfl
theorem gf164 : goFn Tryz.prog 164 = true := by kernel_rfl
theorem gf165 : goFn Tryz.prog 165 = true := by kernel_rfl
theorem gf166 : goFn Tryz.prog 166 = true := by kernel_rfl
theorem gf167 : goFn Tryz.prog 167 = true := by kernel_rfl
theorem gf168 : goFn Tryz.prog 168 = true := by kernel_rfl
theorem gf169 : goFn Tryz.prog 169 = true := by kernel_rfl
theorem gf170 : goFn Tryz.prog 170 = true := by kernel_rfl
theorem gf171 : goFn Tryz.prog 171 = true := by kernel_rfl
theorem gf185 : goFn Tryz.prog 185 = true := by kernel_rfl
theorem gf186 : goFn Tryz.prog 186 = true := by kernel_rfl
theorem gf189 : goFn Tryz.prog 189 = true := by kernel_rfl
theorem gf190 : goFn Tryz.prog 190 = true := by kernel_rfl
theorem gf194 : goFn Tryz.prog 194 = true := by kernel_rfl
theorem gf195 : goFn Tryz.prog 195 = true := by kernel_rfl
theorem gf196 : goFn Tryz.prog 196 = true := by kernel_rfl
theorem gf197 : goFn Tryz.prog 197 = true := by kernel_rfl
theorem gf198 : goFn Tryz.prog 198 = true := by kernel_rfl
theorem gf199 : goFn Tryz.prog 199 = true := by kernel_rfl
theorem gf209 : goFn Tryz.prog 209 = true := by kernel_rfl
theorem gf213 : goFn Tryz.prog 213 = true := by kernel_rfl
theorem mixed : Tryz.prog.follows .mixedOrders = true := by kernel_rfl
end Go.Proofs.YtjoeklkmnfaabaaGreat
/-
  Plain functions and laws of layer 2: numbers as bytes; small laws on the machine's arithmetic.
-/
namespace Go.Proofs.YtjoeklkmnfaabaaGreat
open Go Go.RowKit

/-- Bytes as cells. -/
def u8s (l : List UInt8) : List Value := l.map fun c => .int .u8 (c.toNat : Int)
theorem u8s_length (l : List UInt8) : (u8s l).length = l.length := by simp [u8s]
theorem u8s_length1 (l : List UInt8) : (u8s l).length = l.length * 1 := by simp [u8s]
theorem u8s_append (a b : List UInt8) : u8s (a ++ b) = u8s a ++ u8s b := by simp [u8s]
theorem u8s_one' (l : List UInt8) : (u8s l).all (·.oneCell') = true := by simp [u8s, Value.oneCell']
theorem u8s_get {l : List UInt8} {i : Nat} (h : i < l.length) : (u8s l)[i]? = some (.int .u8 (l[i].toNat : Int)) := by simp [u8s, h]
/-- A number as bytes: seven bits a byte, the lowest first. -/
def enc (v : Nat) : List UInt8 := if v < 128 then [UInt8.ofNat v] else UInt8.ofNat (v % 128 + 128) :: enc (v / 128)
termination_by v
decreasing_by omega
/-! Arithmetic of the machine, in natural numbers. -/
theorem shr_nat (v k b : Nat) : ((v : Int)).fdiv (2 ^ (min ((k : Int)).toNat b)) = ((v / 2 ^ (min k b) : Nat) : Int) := by
  rw [Int.toNat_natCast]
  have h : (2 : Int) ^ (min k b) = ((2 ^ (min k b) : Nat) : Int) := by simp
  rw [h]
  exact (Int.ofNat_fdiv v _).symm
/-- The number with which bytes begin, from the i-th of them on: the number, how many bytes it takes, or the fault. -/
def numGo : List UInt8 → Nat → Nat → Nat × Nat × Nat
  | [], _, _ => (0, 0, 20)
  | c :: l, i, v =>
    if i = 9 ∧ 1 < c.toNat then (0, 0, 21)
    else if 128 ≤ c.toNat then numGo l (i + 1) (v + c.toNat % 128 * 2 ^ (7 * i))
    else if c.toNat = 0 ∧ 0 < i then (0, 0, 21)
    else (v + c.toNat % 128 * 2 ^ (7 * i), i + 1, 0)
def numOf (b : List UInt8) : Nat × Nat × Nat := numGo b 0 0
/-- An int as a number. -/
def zig (n : Int) : Nat := if n < 0 then (-2 * n - 1).toNat else (2 * n).toNat
def encInt (n : Int) : List UInt8 := enc (zig n)
def encText (b : List UInt8) : List UInt8 := enc b.length ++ b
/-- A slice of bytes in memory of its own. -/
def Own (w0 w' : World) (r : Value) (l : List UInt8) : Prop :=
  ∃ g cap sp, r = .slice (hd g) l.length cap ∧ l.length ≤ cap ∧ cap * 1 ≤ (u8s l ++ sp).length ∧ (g = none → cap = 0) ∧ Hp w0 w' [] [(g, 5, u8s l ++ sp)]
/-- What counted reads. -/
def countedOf (b : List UInt8) (most : Int) : Nat × Nat × Nat :=
  if (numOf b).2.2 ≠ 0 then (0, 0, (numOf b).2.2) else if max most 0 < (numOf b).1 then (0, 0, 22) else ((numOf b).1, (numOf b).2.1, 0)
/-- A call that hands back bytes of its own. -/
theorem ops_call_own {P : Program} {ds : List Deferred} {Q : Post} {K : List Value → World → Prop} {all os : List Oper} {l : List Value} {w : World} {op : Op} {ty : TypeId} {pos : String} {af : Array Edge} {d : Tmp}
    {f : FuncId} {args : Array Value} {bs : List UInt8} (hx : Ex P l op ty w (.enter f args) w) (hc : Does P f args w fun r w' => Own w w' r bs)
    (h : ∀ w' g cap sp, bs.length ≤ cap → cap * 1 ≤ (u8s bs ++ sp).length → (g = none → cap = 0) → Hp w w' [] [(g, 5, u8s bs ++ sp)] → Ops P ds all K Q os (l.set d (.slice (hd g) bs.length cap)) w') :
    Ops P ds all K Q (⟨some d, op, ty, pos, af, none⟩ :: os) l w :=
  ops_call hx hc fun r w' ⟨g, cap, sp, h1, h2, h3, h4, h5⟩ => by rw [h1]; exact h w' g cap sp h2 h3 h4 h5
attribute [irreducible] numOf countedOf encInt encText zig
end Go.Proofs.YtjoeklkmnfaabaaGreat
/- Walks of layer 2, printed by wip/gen/codec.py. -/
namespace Go.Proofs.YtjoeklkmnfaabaaGreat
open Go Go.RowKit
set_option linter.unusedVariables false
attribute [local irreducible] Still Ops Does Cd
set_option maxRecDepth 100000 in
set_option maxHeartbeats 4000000 in
theorem clone_any (A : Option Addr) (b : List UInt8) (c : Nat) (w0 : World) (hr : Rd w0 A b.length 1 (u8s b)) (hb : b.length ≤ 211106232532992) :
    Does Tryz.prog 62 #[.slice A b.length c] w0 (fun r w' => Own w0 w' r (b)) := by
  refine does_of Tryz.func62 Tryz.ntmps62 rfl ?_
  change Run _ _ _ _ [.slice A b.length c, undef, undef, undef, undef, undef, undef, undef] _
  have H := Hp.refl w0
  refine run_seq ?_
  refine run_region ?_
  refine ops_val (ex_assign rfl) ?_
  refine ops_nil ?_
  change Run _ _ _ _ [_, _, _, _, _, _, _, _] _
  refine run_seq ?_
  refine run_seq ?_
  refine run_region ?_
  refine ops_val (ex_move rfl) ?_
  refine ops_test (ex_eql_nil_slice Tryz.underlying73 rfl) (fun hp4 => ?_) (fun hp4 => ?_)
  · skip
    refine ops_nil ?_
    change Run _ _ _ _ [_, _, _, _, _, _, _, _] _
    refine run_cond_true rfl ?_
    refine run_seq ?_
    refine run_region ?_
    refine ops_val (ex_assign rfl) ?_
    refine ops_nil ?_
    change Run _ _ _ _ [_, _, _, _, _, _, _, _] _
    refine run_ret ?_
    refine fin_ret1 rfl rfl ?_
    have hb : b = [] := List.eq_nil_of_length_eq_zero (hr.nil hp4)
    subst hb
    exact ⟨none, 0, [], rfl, Nat.le_refl _, by simp, fun _ => rfl, by have := H.nil 5; exact this⟩
  · skip
    refine ops_nil ?_
    change Run _ _ _ _ [_, _, _, _, _, _, _, _] _
    refine run_cond_false rfl ?_
    refine run_skip ?_
    refine run_seq ?_
    refine run_region ?_
    refine ops_buildSlice Tryz.underlying73 ty5 H rfl (by decide) rfl ?_
    intro w1 g1 H1 hg1
    refine ops_val (ex_move rfl) ?_
    refine ops_append Tryz.underlying73 ty5 (by decide) H1 0 (g := some g1) (xs := []) (sp := []) rfl rfl rfl (by decide) (by decide) (by simp) rfl (hr.to0 H1) (u8s_one' b) (by omega) (by omega) (by decide) ?_
    intro w2 g3 cap3 sp3 H2 hcap3 hmc3 hg3
    refine ops_val (ex_assign rfl) ?_
    refine ops_nil ?_
    change Run _ _ _ _ [_, _, _, _, _, _, _, _] _
    refine run_ret ?_
    refine fin_ret1 rfl rfl ?_
    rw [Nat.zero_add] at hmc3
    refine ⟨g3, cap3, sp3, ?_, hmc3, hcap3, hg3, H2.pick [0] (by decide)⟩
    rw [Nat.zero_add]
set_option maxRecDepth 100000 in
set_option maxHeartbeats 4000000 in
theorem plain_any (A B : Option Addr) (a b : List UInt8) (c d : Nat) (w0 : World) (hra : Rd w0 A a.length 1 (u8s a)) (hrb : Rd w0 B b.length 1 (u8s b)) (ha : a.length ≤ 211106232532992) (hb : b.length ≤ 211106232532992) :
    Does Tryz.prog 128 #[.slice A a.length c, .slice B b.length d] w0 (fun r w' => r = .bool (decide (a = b)) ∧ Hp w0 w' [] []) := by
  refine does_of Tryz.func128 Tryz.ntmps128 rfl ?_
  refine nR26 ?_
  have H := Hp.refl w0
  refine run_seq ?_
  refine run_region ?_
  refine ops_val (ex_assign rfl) ?_
  refine ops_nil ?_
  refine nR26 ?_
  refine run_seq ?_
  refine run_seq ?_
  refine run_region ?_
  refine ops_val (ex_move rfl) ?_
  refine ops_val (ex_len_slice Tryz.underlying73 rfl) ?_
  refine ops_val (ex_move rfl) ?_
  refine ops_val (ex_len_slice Tryz.underlying73 rfl) ?_
  refine nO26 ?_
  refine ops_test (ex_neq rfl rfl) (fun hp10 => ?_) (fun hp10 => ?_)
  · skip
    refine ops_nil ?_
    refine nR26 ?_
    refine run_cond_true rfl ?_
    refine run_seq ?_
    refine run_region ?_
    refine ops_val (ex_assign rfl) ?_
    refine ops_nil ?_
    refine nR26 ?_
    refine run_ret ?_
    refine fin_ret1 rfl rfl ?_
    exact ⟨by rw [decide_eq_false (by rintro rfl; omega)], H⟩
  · have hlen : a.length = b.length := by omega
    refine ops_nil ?_
    refine nR26 ?_
    refine run_cond_false rfl ?_
    refine run_skip ?_
    refine run_seq ?_
    refine run_seq ?_
    refine run_region ?_
    refine ops_val (ex_assign rfl) ?_
    refine ops_nil ?_
    refine nR26 ?_
    refine run_block ?_
    refine run_loop (fun nQ lQ w => ∃ (i : Nat) (y : Int), a.length - i = nQ ∧ Fits [some (.slice A a.length c), some (.slice B b.length d), none, none, none, some (.int .i64 y), some (.slice A a.length c), some (.int .i64 a.length), some (.slice B b.length d), some (.int .i64 b.length), some (.bool false), none, none, none, none, none, none, none, none, none, none, none, none, none, none, none] lQ ∧ y = i ∧ i ≤ a.length ∧ a.take i = b.take i ∧ Hp w0 w [] []) (a.length) ?_ ?_
    · exact ⟨0, _, rfl, (fs (fs (fn (fn (fn (fs (fs (fs (fs (fs (fs (fn (fn (fn (fn (fn (fn (fn (fn (fn (fn (fn (fn (fn (fn (fn f0)))))))))))))))))))))))))), rfl, Nat.zero_le _, rfl, H⟩
    · rintro nQ lQ w1 ⟨i, y, rfl, hfit, rfl, hi, hpre, H1⟩
      obtain ⟨j, rfl⟩ := hfit.open
      refine nR26 ?_
      clear hfit
      refine run_seq ?_
      refine run_seq ?_
      refine run_region ?_
      refine ops_val (ex_move rfl) ?_
      refine ops_val (ex_move rfl) ?_
      refine ops_val (ex_len_slice Tryz.underlying73 rfl) ?_
      refine ops_test (ex_lss rfl rfl) (fun hp14 => ?_) (fun hp14 => ?_)
      · obtain ⟨x, rfl⟩ := hra.some_ (by omega)
        obtain ⟨z, rfl⟩ := hrb.some_ (by omega)
        have hia : i < a.length := by omega
        have hib : i < b.length := by omega
        refine ops_nil ?_
        refine nR26 ?_
        refine run_cond_true rfl ?_
        refine run_skip ?_
        refine run_seq ?_
        refine run_block ?_
        refine run_seq ?_
        refine run_still mixed (by kernel_rfl) ?_
        rintro w2 hw2
        have H2 := Hp.drew H1; rw [← hw2] at H2
        refine still_val (ex_move rfl) ?_
        refine still_val (ex_move rfl) ?_
        refine still_val (ex_idx Tryz.underlying73 ty5 rfl rfl rfl hia (Nat.mul_one _)) ?_
        refine still_val (ex_load ty5 rfl ((hra.to0 H2).cells x rfl i _ (u8s_get hia))) ?_
        refine nS26 ?_
        refine still_val (ex_move rfl) ?_
        refine still_val (ex_move rfl) ?_
        refine still_val (ex_idx Tryz.underlying73 ty5 rfl rfl rfl hib (Nat.mul_one _)) ?_
        refine still_val (ex_load ty5 rfl ((hrb.to0 H2).cells z rfl i _ (u8s_get hib))) ?_
        refine nS26 ?_
        refine still_test (ex_neq rfl rfl) (fun hp25 => ?_) (fun hp25 => ?_)
        · skip
          refine still_nil ?_
          refine nR26 ?_
          refine run_cond_true rfl ?_
          refine run_seq ?_
          refine run_region ?_
          refine ops_val (ex_assign rfl) ?_
          refine ops_nil ?_
          refine nR26 ?_
          refine run_ret ?_
          refine blk_ret ?_
          refine rnd_ret ?_
          refine blk_ret ?_
          refine fin_ret1 rfl rfl ?_
          exact ⟨by rw [decide_eq_false (by rintro rfl; omega)], H2⟩
        · skip
          refine still_nil ?_
          refine nR26 ?_
          refine run_cond_false rfl ?_
          refine run_skip ?_
          refine run_nil (blk_normal ?_)
          refine run_region ?_
          refine ops_val (ex_move rfl) ?_
          refine ops_val (ex_add rfl rfl (IntWalk.i64_in _ (by omega))) ?_
          refine ops_val (ex_assign rfl) ?_
          refine ops_nil ?_
          refine nR26 ?_
          refine run_nil (rnd_normal ?_)
          exact ⟨a.length - (i + 1), by omega, i + 1, _, rfl, (fs (fs (fn (fn (fn (fs (fs (fs (fs (fs (fs (fn (fn (fn (fn (fn (fn (fn (fn (fn (fn (fn (fn (fn (fn (fn f0)))))))))))))))))))))))))), by omega, by omega, by rw [← List.take_append_getElem hia, ← List.take_append_getElem hib, hpre, UInt8.toNat_inj.1 (show a[i].toNat = b[i].toNat by omega)], H2⟩
      · skip
        refine ops_nil ?_
        refine nR26 ?_
        refine run_cond_false rfl ?_
        refine run_exit ?_
        refine rnd_exit ?_
        refine blk_exit ?_
        refine run_seq ?_
        refine run_region ?_
        refine ops_val (ex_assign rfl) ?_
        refine ops_nil ?_
        refine nR26 ?_
        refine run_ret ?_
        refine fin_ret1 rfl rfl ?_
        exact ⟨by rw [decide_eq_true (by rw [← List.take_of_length_le (l := a) (i := i) (by omega), hpre, List.take_of_length_le (by omega)])], H1⟩
set_option maxRecDepth 100000 in
set_option maxHeartbeats 4000000 in
theorem bytes_any (A B : Option Addr) (a b : List UInt8) (c d : Nat) (w0 : World) (hra : Rd w0 A a.length 1 (u8s a)) (hrb : Rd w0 B b.length 1 (u8s b)) (ha : a.length ≤ 211106232532992) (hb : b.length ≤ 211106232532992) :
    Does Tryz.prog 85 #[.slice A a.length c, .slice B b.length d] w0 (fun r w' => r = .bool (decide (a = b)) ∧ Hp w0 w' [] []) := by
  refine does_of Tryz.func85 Tryz.ntmps85 rfl ?_
  change Run _ _ _ _ [.slice A a.length c, .slice B b.length d, undef, undef, undef, undef, undef, undef] _
  have H := Hp.refl w0
  refine run_seq ?_
  refine run_region ?_
  refine ops_val (ex_assign rfl) ?_
  refine ops_nil ?_
  change Run _ _ _ _ [_, _, _, _, _, _, _, _] _
  refine run_seq ?_
  refine run_region ?_
  refine ops_val (ex_move rfl) ?_
  refine ops_val (ex_move rfl) ?_
  refine ops_call_val (ex_call gf128 rfl) (plain_any A B a b c d _ (hra.to0 H) (hrb.to0 H) ha hb) ?_
  intro w1 Hc
  have H1 := H.call0 Hc
  refine ops_val (ex_assign rfl) ?_
  refine ops_nil ?_
  change Run _ _ _ _ [_, _, _, _, _, _, _, _] _
  refine run_ret ?_
  refine fin_ret1 rfl rfl ?_
  exact ⟨rfl, H1⟩
end Go.Proofs.YtjoeklkmnfaabaaGreat
/-
  General laws: rows, slices of bytes, calls; for seats without the codec.
-/
namespace Go.Proofs.YtjoeklkmnfaabaaGreat
open Go Go.RowKit

section more
variable {P : Program} {ds : List Deferred} {Q : Post} {K : List Value → World → Prop} {all os : List Oper} {l : List Value} {w0 w w' : World} {S S' : List Nat} {es es' : List Ent} {ty t : TypeId} {pos : String} {af : Array Edge} {d : Tmp} {v : Value} {op : Op}
  {zs cs : List Value} {sz bytes : Nat} {agg : Bool}
def placesOf (P : Program) (t : TypeId) : Option (List (Nat × Nat)) :=
  match P.underlying t with
  | some (.struct fields) => fields.toList.mapM (fun f => (P.info? f.type).map fun i => (f.offset, i.size))
  | _ => none
theorem ex_build (h : TyOk P t zs sz bytes agg) {ps : List (Nat × Nat)} (hp : placesOf P t = some ps) {xs : List (Nat × Operand)} {vs : List (Nat × Value)} (hv : partVals l xs = some vs) (hf : fillL (fun i => ps[i]?) zs vs = some cs) :
    Ex P l (.build t xs.toArray) ty w (.value (.agg cs.toArray)) w := fun _ _ _ _ => by
  obtain ⟨i, z, d, hi, hz, hzs, _, _, hd, _⟩ := h.ex
  have hb : P.built t (xs.toArray.map fun (i, x) => (i, rho l x)).toList = some cs.toArray := by
    have hvs : (xs.toArray.map fun (i, x) => (i, rho l x)).toList = vs := by simpa using partVals_eq hv
    rw [hvs]
    unfold placesOf at hp
    rw [hd] at hp
    cases d with
    | struct fields =>
      simp only at hp
      have hf' := fill_of (fun i => ps[i]?) vs zs cs hf
      have e : z.cells = zs.toArray := by rw [← hzs]
      unfold Program.built
      rw [hi, hd]
      simp only [hz, hp, e]
      simpa using hf'
    | _ => cases hp
  have hr := run_build (P := P) w t _ _ hb
  simp only [execOp, Sem.run_bind]
  rw [hr]
  rfl
theorem Hp.then (H : Hp w0 w S es) (H' : Hp w w' S' es') : Hp w0 w' (S ++ S') es' := by
  refine ⟨H'.os.trans H.os, H'.tape.trans H.tape, H'.output.trans H.output, Nat.le_trans H.size H'.size, ?_, ?_, H'.apart⟩
  · intro k hk hS
    simp only [List.mem_append, not_or] at hS
    rw [H'.frame k (Nat.lt_of_lt_of_le hk H.size) hS.2]
    exact H.frame k hk hS.1
  · intro i e he
    have := H'.ent i e he
    unfold EntOk at this ⊢
    split
    · rename_i hn; rw [hn] at this; exact this
    · rename_i g hg
      rw [hg] at this
      refine ⟨this.1, ?_⟩
      rcases this.2 with h | h
      · exact .inl (List.mem_append_right _ h)
      · exact .inr (Nat.le_trans H.size h)
theorem Hp.keep (H : Hp w0 w S es) {g : Nat} {o : Obj} (hg : w0.heap[g]? = some o) (hS : g ∉ S) : w.heap[g]? = some o := by
  rw [H.frame g (Array.getElem?_eq_some_iff.1 hg).1 hS]; exact hg
theorem Hp.drop (H : Hp w0 w S es) (S' : List Nat) (hS : ∀ k, k < w0.heap.size → w.heap[k]? = w0.heap[k]? := by intro k hk; rfl) : Hp w0 w S' [] :=
  ⟨H.os, H.tape, H.output, H.size, fun k hk _ => hS k hk, by simp, by simp⟩
end more

section rdr
variable {w w' : World} {gr : Nat} {A : Option Addr} {c : Nat} {b : List UInt8} {i e : Nat}
theorem u8s_drop (b : List UInt8) (i : Nat) : u8s (b.drop i) = (u8s b).drop i := by simp [u8s, List.map_drop]
theorem u8s_take (b : List UInt8) (i : Nat) : u8s (b.take i) = (u8s b).take i := by simp [u8s, List.map_take]
theorem Rd.tail (h : Rd w A b.length 1 (u8s b)) (hi : i ≤ b.length) : Rd w (cutAddr A i b.length 1) (b.drop i).length 1 (u8s (b.drop i)) := by
  have := h.cut i b.length b.length hi (Nat.le_refl _) (Nat.le_refl _)
  rw [u8s_drop, List.length_drop]
  simp only [Nat.mul_one] at this
  rw [List.take_of_length_le (by rw [List.length_drop, u8s_length]; exact Nat.le_refl _)] at this
  unfold cutAddr
  simp only [Nat.mul_one]
  exact this
theorem Rd.head {n : Nat} (h : Rd w A b.length 1 (u8s b)) (hi : n ≤ b.length) : Rd w A (b.take n).length 1 (u8s (b.take n)) := by
  have := h.cut 0 n (n + 1) (by omega) hi (by omega)
  rw [u8s_take, List.length_take, Nat.min_eq_left hi]
  simp only [Nat.mul_one, Nat.sub_zero, List.drop_zero] at this
  rw [if_neg (by omega)] at this
  cases A with
  | none => exact this
  | some a => simpa [Addr.add_zero'] using this
end rdr
section app
variable {P : Program} {ds : List Deferred} {Q : Post} {K : List Value → World → Prop} {all os : List Oper} {l : List Value} {w0 w w' : World} {S S' : List Nat} {es es' : List Ent} {ty t : TypeId} {pos : String} {af : Array Edge} {d : Tmp} {v : Value} {op : Op}
  {zs cs : List Value} {agg : Bool} {x y : Operand}
end app
theorem Hp.ne {w0 w : World} {S : List Nat} {es : List Ent} (H : Hp w0 w S es) {i j g g' : Nat} {T T' : TypeId} {cs cs' : List Value} (h1 : es[i]? = some (some g, T, cs)) (h2 : es[j]? = some (some g', T', cs')) (hij : i ≠ j) : g ≠ g' := by
  rintro rfl
  exact hij (H.apart i j _ _ g h1 h2 rfl rfl)
theorem addz (g o : Nat) : (⟨g, 0, none⟩ : Addr).add o = ⟨g, o, none⟩ := by
  unfold Addr.add
  split
  · rename_i h; rw [h]
  · simp
end Go.Proofs.YtjoeklkmnfaabaaGreat
/-
  General laws on rows: calls that turn some of them, lists that grow, copies.
-/
namespace Go.Proofs.YtjoeklkmnfaabaaGreat
open Go Go.RowKit
abbrev Blk := List UInt8
def bl (es : List Ent) : List Nat := es.filterMap (·.1)
theorem Hp.here {w0 w : World} {S : List Nat} {es : List Ent} (H : Hp w0 w S es) : Hp w w (bl es) es := by
  refine ⟨rfl, rfl, rfl, Nat.le_refl _, fun _ _ _ => rfl, ?_, H.apart⟩
  intro i e he
  have h := H.ent i e he
  unfold EntOk at h ⊢
  split
  · rename_i hn; rw [hn] at h; exact h
  · rename_i g hg
    rw [hg] at h
    exact ⟨h.1, .inl (List.mem_filterMap.2 ⟨e, List.mem_of_getElem? he, hg⟩)⟩
theorem bl_at {es es' : List Ent} {is : List Nat} (h : es' = is.map fun i => es.getD i (none, 0, [])) : ∀ b ∈ bl es', ∃ i ∈ is, ∃ T cs, es[i]? = some (some b, T, cs) := by
  intro b hb
  subst h
  obtain ⟨e, he, hg⟩ := List.mem_filterMap.1 hb
  obtain ⟨i, hi, rfl⟩ := List.mem_map.1 he
  refine ⟨i, hi, ?_⟩
  cases h : es[i]? with
  | none => rw [List.getD_eq_getElem?_getD, h] at hg; simp at hg
  | some x =>
    rw [List.getD_eq_getElem?_getD, h] at hg
    obtain ⟨a, T, cs⟩ := x
    simp at hg
    exact ⟨T, cs, by rw [hg]⟩
theorem addn (b o n : Nat) : (⟨b, o, none⟩ : Addr).add n = ⟨b, o + n, none⟩ := by
  unfold Addr.add
  split
  · rename_i h; rw [h]; rfl
  · rfl
theorem kill_length : ∀ (is : List Nat) (es : List Ent), (kill es is).length = es.length
  | [], _ => rfl
  | i :: is, es => by simp [kill, kill_length is es]
theorem kill_not : ∀ (is : List Nat) (es : List Ent) (j : Nat), j ∉ is → (kill es is)[j]? = es[j]?
  | [], _, _, _ => rfl
  | i :: is, es, j, h => by
    simp only [kill]
    rw [List.getElem?_set_ne (fun e => h (by simp [e])), kill_not is es j (fun hh => h (List.mem_cons_of_mem _ hh))]
theorem Hp.callr {w0 w w' : World} {S : List Nat} {es es1 es2 : List Ent} (H : Hp w0 w S es) (is : List Nat) (h1 : es1 = is.map fun i => es.getD i (none, 0, [])) (H' : Hp w w' (bl es1) es2) : Hp w0 w' S (kill es is ++ es2) := H.call H' is (bl_at h1)
section
variable {w0 w w' : World} {S S' : List Nat} {es es' es1 es2 R : List Ent}
theorem Hp.sub (H : Hp w0 w S es) (φ : Nat → Nat) (h : ∀ i e, es'[i]? = some e → es[φ i]? = some e ∨ (e.1 = none ∧ e.2.2 = [])) (hinj : ∀ i j, i < es'.length → j < es'.length → φ i = φ j → i = j) : Hp w0 w S es' := by
  refine ⟨H.os, H.tape, H.output, H.size, H.frame, ?_, ?_⟩
  · intro i e he
    rcases h i e he with h1 | ⟨h1, h2⟩
    · exact H.ent _ e h1
    · unfold EntOk; rw [h1]; exact h2
  · intro i j e f g hi hj he hf
    rcases h i e hi with h1 | ⟨h1, _⟩
    · rcases h j f hj with h2 | ⟨h2, _⟩
      · exact hinj i j (lt_of_get hi) (lt_of_get hj) (H.apart _ _ e f g h1 h2 he hf)
      · rw [h2] at hf; cases hf
    · rw [h1] at he; cases he
theorem Hp.less (H : Hp w0 w S (es ++ R)) : Hp w0 w S es :=
  H.sub id (fun i e he => .inl (by rw [id, List.getElem?_append_left (lt_of_get he)]; exact he)) (fun _ _ _ _ h => h)
theorem Hp.front (H : Hp w0 w S (es1 ++ R)) (H' : Hp w w' (bl es1) es2) : Hp w0 w' S (es2 ++ R) := by
  have hS : ∀ b ∈ bl es1, ∃ i ∈ List.range es1.length, ∃ T cs, (es1 ++ R)[i]? = some (some b, T, cs) := by
    intro b hb
    obtain ⟨⟨g, T, cs⟩, he, hg⟩ := List.mem_filterMap.1 hb
    obtain ⟨i, hi⟩ := List.getElem?_of_mem he
    have hlt := lt_of_get hi
    simp only at hg
    subst hg
    exact ⟨i, List.mem_range.2 hlt, T, cs, by rw [List.getElem?_append_left hlt]; exact hi⟩
  have hC := H.call H' (List.range es1.length) hS
  have hlen : (kill (es1 ++ R) (List.range es1.length)).length = es1.length + R.length := by rw [kill_length]; simp
  refine hC.sub (fun i => if i < es2.length then es1.length + R.length + i else es1.length + (i - es2.length)) ?_ ?_
  · intro i e he
    split
    · rename_i h
      left
      rw [List.getElem?_append_right (by omega), hlen, Nat.add_sub_cancel_left]
      rwa [List.getElem?_append_left h] at he
    · rename_i h
      left
      rw [List.getElem?_append_right (by omega)] at he
      have := lt_of_get he
      rw [List.getElem?_append_left (by omega), kill_not _ _ _ (by simp), List.getElem?_append_right (by omega), Nat.add_sub_cancel_left]
      exact he
  · intro i j hi hj h
    simp only [List.length_append] at hi hj
    split at h <;> split at h <;> omega
theorem Hp.all (HB : Hp w0 w S es) (H : Hp w w' (bl es) es') : Hp w0 w' S es' := by
  have := Hp.front (R := []) (by simpa using HB) H
  simpa using this
theorem Hp.allocAny (H : Hp w0 w S es) (o : Obj) : Hp w0 (w.alloc o) S es := by
  refine ⟨H.os, H.tape, H.output, ?_, ?_, ?_, H.apart⟩
  · have := H.size; simp; omega
  · intro k hk hS
    rw [heap_alloc_old w _ (by have := H.size; omega)]
    exact H.frame k hk hS
  · intro i e he
    have h := H.ent i e he
    unfold EntOk at h ⊢
    split
    · rename_i hn; rw [hn] at h; exact h
    · rename_i g hg
      rw [hg] at h
      exact ⟨by rw [heap_alloc_old w _ (H.ent_lt he hg)]; exact h.1, h.2⟩
theorem Hp.callN (H : Hp w0 w S es) (H' : Hp w w' [] es2) : Hp w0 w' S es := (H.call0 H').less
end
theorem bl_lt {w0 w : World} {S : List Nat} {es : List Ent} (H : Hp w0 w S es) {b : Nat} (hb : b ∈ bl es) : b < w.heap.size := by
  obtain ⟨⟨g, T, cs⟩, he, hg⟩ := List.mem_filterMap.1 hb
  obtain ⟨i, hi⟩ := List.getElem?_of_mem he
  simp only at hg
  subst hg
  exact H.lt hi
theorem own_some {w0 w : World} {S : List Nat} {es : List Ent} {i : Nat} {g : Option Nat} {T : TypeId} {cs : List Value} (H : Hp w0 w S es) (he : es[i]? = some (g, T, cs)) (h : 0 < cs.length) : ∃ k, g = some k := by
  cases g with
  | some k => exact ⟨k, rfl⟩
  | none =>
    have h1 := H.ent i _ he
    change cs = [] at h1
    subst h1
    cases h
theorem bl_place {w0 w : World} {S : List Nat} {es : List Ent} (H : Hp w0 w S es) : ∀ b ∈ bl es, b ∈ S ∨ w0.heap.size ≤ b := by
  intro b hb
  obtain ⟨e, he, hg2⟩ := List.mem_filterMap.1 hb
  obtain ⟨i, hi⟩ := List.getElem?_of_mem he
  obtain ⟨g', T, cs⟩ := e
  simp only at hg2
  subst hg2
  exact H.place hi
theorem bl_cells {w0 w : World} {S : List Nat} {es : List Ent} (H : Hp w0 w S es) : ∀ b ∈ bl es, ∃ arr T z, w.heap[b]? = some (.cells arr T z) := by
  intro b hb
  obtain ⟨e, he, hg2⟩ := List.mem_filterMap.1 hb
  obtain ⟨i, hi⟩ := List.getElem?_of_mem he
  obtain ⟨g', T, cs⟩ := e
  simp only at hg2
  subst hg2
  exact ⟨_, _, _, H.at hi⟩
theorem row_not {w0 w : World} {S : List Nat} {es : List Ent} (H : Hp w0 w S es) {i : Nat} {g : Nat} {T : TypeId} {cs : List Value} (hi : es[i]? = some (some g, T, cs)) {is : List Nat} (hn : i ∉ is) : g ∉ bl (is.map fun j => es.getD j (none, 0, [])) := by
  intro hb
  obtain ⟨j, hj, T', cs', hj2⟩ := bl_at rfl _ hb
  have := H.apart i j _ _ g hi hj2 rfl rfl
  subst this
  exact hn hj
theorem bl_pick {w0 w : World} {S : List Nat} {es : List Ent} {is : List Nat} (_ : Hp w0 w S es) : ∀ p ∈ bl (is.map fun i => es.getD i (none, 0, [])), p ∈ bl es := by
  intro p hp
  obtain ⟨i, _, T, cs, h⟩ := bl_at rfl p hp
  exact List.mem_filterMap.2 ⟨_, List.mem_of_getElem? h, rfl⟩
theorem Hp.noRows {w0 w : World} {S : List Nat} {es : List Ent} (H : Hp w0 w S es) : Hp w0 w S [] := H.pick [] (by simp)
theorem Hp.right {w0 w : World} {S : List Nat} {a b : List Ent} (H : Hp w0 w S (a ++ b)) : Hp w0 w S b := by
  have key : ∀ (i : Nat) (e : Ent), b[i]? = some e → (a ++ b)[a.length + i]? = some e := fun i e h => by rw [List.getElem?_append_right (by omega), Nat.add_sub_cancel_left]; exact h
  refine ⟨H.os, H.tape, H.output, H.size, H.frame, fun i e he => H.ent _ e (key i e he), fun i j e f g hi hj h1 h2 => ?_⟩
  have := H.apart _ _ e f g (key i e hi) (key j f hj) h1 h2
  omega
theorem Hp.step {w0 w w' : World} {S S2 : List Nat} {es es2 : List Ent} (H : Hp w0 w S es) (H' : Hp w w' S2 es2) (hS : ∀ b ∈ S2, b ∈ S ∨ w0.heap.size ≤ b) : Hp w0 w' S es2 := by
  refine ⟨H'.os.trans H.os, H'.tape.trans H.tape, H'.output.trans H.output, Nat.le_trans H.size H'.size, ?_, ?_, H'.apart⟩
  · intro k hk hkS
    rw [H'.frame k (by have := H.size; omega) (fun hx => by rcases hS k hx with h1 | h1; exact hkS h1; omega)]
    exact H.frame k hk hkS
  · intro i e he
    have h1 := H'.ent i e he
    unfold EntOk at h1 ⊢
    split
    · rename_i hn; rw [hn] at h1; exact h1
    · rename_i g hg
      rw [hg] at h1
      refine ⟨h1.1, ?_⟩
      rcases h1.2 with h2 | h2
      · exact hS g h2
      · exact .inr (Nat.le_trans H.size h2)
section laws
variable {P : Program} {ds : List Deferred} {Q : Post} {K : List Value → World → Prop} {all os : List Oper} {l : List Value} {w0 w w' : World} {S S' : List Nat} {es es' : List Ent} {ty t : TypeId} {pos : String} {af : Array Edge} {d : Tmp} {v : Value} {op : Op}
  {x y : Operand} {zs cs : List Value} {sz bytes : Nat} {agg : Bool}
theorem ex_idxN {e : TypeId} {k : IntKind} {n : Int} (ht : P.underlying t = some (.slice e)) (he : TyOk P e zs sz bytes agg) {b o len c i : Nat} (hx : ev l x = some (.slice (some ⟨b, o, none⟩) len c)) (hy : ev l y = some (.int k n)) (hn : n = (i : Int)) (hi : i < len) :
    Ex P l (.indexAddr t x y) ty w (.value (.pointer (some ⟨b, o + i * sz, none⟩))) w := by
  have h := ex_idx (ty := ty) (w := w) ht he hx hy hn hi rfl
  rwa [addn] at h
theorem ops_makeN {e : TypeId} (ht : P.underlying t = some (.slice e)) (he : TyOk P e zs sz bytes agg) (H : Hp w0 w S es) {k1 k2 : IntKind} {n c : Nat} (hx : ev l x = some (.int k1 n)) (hy : ev l y = some (.int k2 c))
    (hnc : n ≤ c) (hb : bytes * c ≤ 281474976710656) (h63 : c ≤ 9223372036854775807)
    (k : ∀ w' g, Hp w0 w' S (es ++ [(some g, e, initL zs c)]) → g = w.heap.size → Ops P ds all K Q os (l.set d (.slice (hd (some g)) n c)) w') : Ops P ds all K Q (⟨some d, .makeSlice t x y, ty, pos, af, none⟩ :: os) l w := by
  obtain ⟨i, z', d', hi, hz, hzs, hsz, hby, hd', _⟩ := he.ex
  have H' := H.alloc e (initL zs c)
  refine ops_val (w' := w.alloc (.cells (initL zs c).toArray e)) ?_ (k _ _ H' rfl)
  intro _ _ _ _
  have hr := run_make (P := P) w t e i z' ht hi hz k1 k2 n c (by omega) (by omega) (by rw [hby]; omega) (by omega)
  have hc : madeCells z'.cells (c * i.size) = (initL zs c).toArray := by
    have hcl : z'.cells = zs.toArray := by rw [← hzs]
    rw [hsz, ← he.len, hcl, ← init_eq]
    rfl
  simp only [Int.toNat_natCast] at hr
  simp [execOp, rho_of hx, rho_of hy, hr, hc]
theorem putAt_all {cs vs : List Value} (h : cs.length = vs.length) : putAt cs 0 vs = vs := by
  simp [putAt, h]
theorem cells_of {w0 w : World} {S : List Nat} {es : List Ent} {i g o : Nat} {T : TypeId} {cs vs : List Value} (H : Hp w0 w S es) (he : es[i]? = some (some g, T, cs)) (h : ∀ j u, vs[j]? = some u → cs[o + j]? = some u) : ∀ j u, vs[j]? = some u → w.cell? ((⟨g, o, none⟩ : Addr).add j) = some u := by
  intro j u hu
  have e : (⟨g, o, none⟩ : Addr).add j = ⟨g, o + j, none⟩ := by
    unfold Addr.add
    split
    · rename_i h0; rw [h0]; rfl
    · rfl
  rw [e]
  exact H.cell he (h j u hu)
end laws
section
variable {P : Program} {fn : Func} {l : List Value} {w w0 : World} {R : Value → World → Prop} {zs : List Value} {sz bytes : Nat}
theorem fin_cell {r1 : Tmp} {ty : TypeId} (hr : fn.results = #[.cell r1 ty]) (ht : TyOk P ty zs sz bytes true) {g : Nat} {cs : List Value} (h1 : nth l r1 = some (.pointer (some ⟨g, 0, none⟩))) (hl : cs.length = sz) (hc : ∀ j u, cs[j]? = some u → w.cell? ((⟨g, 0, none⟩ : Addr).add j) = some u) (h : R (.agg cs.toArray) w) : fin P fn R .ret l w := by
  refine ⟨.agg cs.toArray, ?_, h⟩
  have hl2 := run_loadVarN (P := P) (w := w) ht hl hc
  have hp : l[r1]? = some (.pointer (some ⟨g, 0, none⟩)) := by rw [← nth_eq]; exact h1
  simp [results, hr, hp, asAddr, hl2]
theorem fin_cell_tmp {r1 r2 : Tmp} {ty : TypeId} (hr : fn.results = #[.cell r1 ty, .tmp r2]) (ht : TyOk P ty zs sz bytes true) {g : Nat} {cs : List Value} {v2 : Value} (h1 : nth l r1 = some (.pointer (some ⟨g, 0, none⟩))) (h2 : nth l r2 = some v2) (hl : cs.length = sz) (hc : ∀ j u, cs[j]? = some u → w.cell? ((⟨g, 0, none⟩ : Addr).add j) = some u)
    (h : R (.tuple #[.agg cs.toArray, v2]) w) : fin P fn R .ret l w := by
  refine ⟨.tuple #[.agg cs.toArray, v2], ?_, h⟩
  have hl2 := run_loadVarN (P := P) (w := w) ht hl hc
  have hp : l[r1]? = some (.pointer (some ⟨g, 0, none⟩)) := by rw [← nth_eq]; exact h1
  rw [results_cell_tmp hr]
  rw [getD_of h1, getD_of h2]
  simp [asAddr, hl2]
end
/-- Some cells of a row, from a place on. -/
theorem Hp.cellsR {w0 w : World} {S : List Nat} {es : List Ent} {i g o : Nat} {T : TypeId} {cs us : List Value} (H : Hp w0 w S es) (he : es[i]? = some (some g, T, cs)) (hs : (cs.drop o).take us.length = us) : ∀ j u, us[j]? = some u → w.cell? ((⟨g, o, none⟩ : Addr).add j) = some u :=
  cells_of H he fun j u hu => by
    rw [← hs, List.getElem?_take] at hu
    split at hu
    · rwa [List.getElem?_drop] at hu
    · cases hu

/-! ### Elements of some cells each -/
def Pl (sz : Nat) (ps : List (List Value)) : Prop := ∀ p ∈ ps, p.length = sz
section
variable {sz i : Nat} {ps qs : List (List Value)} {p q : List Value}
theorem Pl.nil (sz : Nat) : Pl sz [] := fun _ h => by cases h
theorem Pl.at (h : Pl sz ps) (hi : ps[i]? = some p) : p.length = sz := h p (List.mem_of_getElem? hi)
theorem Pl.tail (h : Pl sz (p :: ps)) : Pl sz ps := fun x hx => h x (List.mem_cons_of_mem _ hx)
theorem Pl.sub (h : Pl sz ps) (hs : ∀ x ∈ qs, x ∈ ps) : Pl sz qs := fun x hx => h x (hs x hx)
theorem Pl.app (h : Pl sz ps) (h2 : Pl sz qs) : Pl sz (ps ++ qs) := fun x hx => (List.mem_append.1 hx).elim (h x) (h2 x)
theorem Pl.one (h : p.length = sz) : Pl sz [p] := fun x hx => by rw [List.mem_singleton.1 hx]; exact h
theorem Pl.len : ∀ {ps : List (List Value)}, Pl sz ps → ps.flatten.length = ps.length * sz
  | [], _ => by simp
  | p :: ps, h => by
    rw [List.flatten_cons, List.length_append, h p (by simp), Pl.len h.tail, List.length_cons, Nat.add_mul]; omega
theorem Pl.drop_ : ∀ {ps : List (List Value)} (i : Nat), Pl sz ps → ps.flatten.drop (i * sz) = (ps.drop i).flatten
  | ps, 0, _ => by simp
  | [], i + 1, _ => by simp
  | p :: ps, i + 1, h => by
    rw [List.flatten_cons, List.drop_succ_cons, ← Pl.drop_ i h.tail, show (i + 1) * sz = p.length + i * sz by rw [h p (by simp), Nat.add_mul]; omega, ← List.drop_drop, List.drop_left]
theorem Pl.take_ : ∀ {ps : List (List Value)} (i : Nat), Pl sz ps → ps.flatten.take (i * sz) = (ps.take i).flatten
  | ps, 0, _ => by simp
  | [], i + 1, _ => by simp
  | p :: ps, i + 1, h => by
    rw [List.flatten_cons, List.take_succ_cons, List.flatten_cons, ← Pl.take_ i h.tail, show (i + 1) * sz = p.length + i * sz by rw [h p (by simp), Nat.add_mul]; omega, List.take_append, Nat.add_sub_cancel_left, List.take_of_length_le (by omega)]
theorem Pl.part (h : Pl sz ps) (hi : ps[i]? = some p) : (ps.flatten.drop (i * sz)).take sz = p := by
  obtain ⟨hl, rfl⟩ := List.getElem?_eq_some_iff.1 hi
  rw [Pl.drop_ i h, List.drop_eq_getElem_cons hl, List.flatten_cons, ← h.at hi, List.take_left]
theorem Pl.get (h : Pl sz ps) (hi : ps[i]? = some p) {j : Nat} {u : Value} (hu : p[j]? = some u) : ps.flatten[i * sz + j]? = some u := by
  rw [← List.getElem?_drop]
  rw [← h.part hi, List.getElem?_take] at hu
  split at hu
  · exact hu
  · cases hu
theorem Pl.set_ (h : Pl sz ps) (hi : i < ps.length) (hq : q.length = sz) : putAt ps.flatten (i * sz) q = (ps.set i q).flatten := by
  rw [putAt, h.take_, hq, show i * sz + sz = (i + 1) * sz by rw [Nat.add_mul]; omega, h.drop_, List.set_eq_take_append_cons_drop, if_pos hi, List.flatten_append, List.flatten_cons, List.append_assoc]
theorem Pl.set_len (h : Pl sz ps) (hq : q.length = sz) : Pl sz (ps.set i q) := fun x hx => by
  rcases List.mem_or_eq_of_mem_set hx with hx | rfl
  · exact h x hx
  · exact hq
theorem putAt_left {cs sp vs : List Value} {o : Nat} (h : o + vs.length ≤ cs.length) : putAt (cs ++ sp) o vs = putAt cs o vs ++ sp := by
  unfold putAt
  rw [List.take_append, List.drop_append, show o - cs.length = 0 by omega, show o + vs.length - cs.length = 0 by omega]
  simp
theorem ones_flatten (h : ∀ p ∈ ps, p.all (·.oneCell') = true) : ps.flatten.all (·.oneCell') = true := by
  rw [List.all_eq_true]
  intro x hx
  obtain ⟨p, hp, hxp⟩ := List.mem_flatten.1 hx
  exact List.all_eq_true.1 (h p hp) x hxp
/-- An element, read. -/
theorem Rd.elem {w : World} {a : Addr} {n : Nat} (h : Rd w (some a) n sz ps.flatten) (hp : Pl sz ps) (hi : ps[i]? = some p) : ∀ j u, p[j]? = some u → w.cell? ((a.add (i * sz)).add j) = some u := fun j u hu => by
  rw [add_add]
  exact h.cells a rfl _ u (hp.get hi hu)
theorem Hp.elem {w0 w : World} {S : List Nat} {es : List Ent} {k g : Nat} {T : TypeId} {sp : List Value} (H : Hp w0 w S es) (he : es[k]? = some (some g, T, ps.flatten ++ sp)) (hp : Pl sz ps) (hi : ps[i]? = some p) : ∀ j u, p[j]? = some u → w.cell? (((⟨g, 0, none⟩ : Addr).add (i * sz)).add j) = some u := fun j u hu => by
  rw [add_add, addn, Nat.zero_add]
  exact H.cell he (by
    have h1 := hp.get hi hu
    rw [List.getElem?_append_left (lt_of_get h1)]; exact h1)
end
/-- Things and what they are, one beside the other. -/
def All2 {α β : Type} (R : α → β → Prop) : List α → List β → Prop
  | [], [] => True
  | a :: xs, b :: ys => R a b ∧ All2 R xs ys
  | _, _ => False
section
variable {α β : Type} {R R' : α → β → Prop}
theorem All2.len : ∀ {xs : List α} {ys : List β}, All2 R xs ys → xs.length = ys.length
  | [], [], _ => rfl
  | _ :: _, _ :: _, h => by rw [List.length_cons, List.length_cons, All2.len h.2]
theorem All2.imp (hh : ∀ a b, R a b → R' a b) : ∀ {xs : List α} {ys : List β}, All2 R xs ys → All2 R' xs ys
  | [], [], _ => trivial
  | _ :: _, _ :: _, h => ⟨hh _ _ h.1, All2.imp hh h.2⟩
theorem All2.app : ∀ {xs xs' : List α} {ys ys' : List β}, All2 R xs ys → All2 R xs' ys' → All2 R (xs ++ xs') (ys ++ ys')
  | [], _, [], _, _, h2 => h2
  | _ :: _, _, _ :: _, _, h, h2 => ⟨h.1, All2.app h.2 h2⟩
theorem All2.get : ∀ {xs : List α} {ys : List β} {i : Nat} {b : β}, All2 R xs ys → ys[i]? = some b → ∃ a, xs[i]? = some a ∧ R a b
  | [], [], _, _, _, hi => by simp at hi
  | a :: _, b :: _, 0, _, h, hi => by simp only [List.getElem?_cons_zero, Option.some.injEq] at hi; subst hi; exact ⟨a, rfl, h.1⟩
  | _ :: _, _ :: _, i + 1, _, h, hi => All2.get (i := i) h.2 (by simpa using hi)
theorem All2.getL : ∀ {xs : List α} {ys : List β} {i : Nat} {a : α}, All2 R xs ys → xs[i]? = some a → ∃ b, ys[i]? = some b ∧ R a b
  | [], [], _, _, _, hi => by simp at hi
  | _ :: _, b :: _, 0, _, h, hi => by simp only [List.getElem?_cons_zero, Option.some.injEq] at hi; subst hi; exact ⟨b, rfl, h.1⟩
  | _ :: _, _ :: _, i + 1, _, h, hi => All2.getL (i := i) h.2 (by simpa using hi)
theorem All2.take : ∀ {xs : List α} {ys : List β} (i : Nat), All2 R xs ys → All2 R (xs.take i) (ys.take i)
  | _, _, 0, _ => by simp [All2]
  | [], [], _ + 1, _ => trivial
  | _ :: _, _ :: _, i + 1, h => ⟨h.1, All2.take i h.2⟩
theorem All2.drop : ∀ {xs : List α} {ys : List β} (i : Nat), All2 R xs ys → All2 R (xs.drop i) (ys.drop i)
  | _, _, 0, h => h
  | [], [], _ + 1, _ => trivial
  | _ :: _, _ :: _, i + 1, h => All2.drop i h.2
theorem All2.set : ∀ {xs : List α} {ys : List β} (i : Nat) {a : α} {b : β}, All2 R xs ys → R a b → All2 R (xs.set i a) (ys.set i b)
  | [], [], _, _, _, _, _ => trivial
  | _ :: _, _ :: _, 0, _, _, h, h2 => ⟨h2, h.2⟩
  | _ :: _, _ :: _, i + 1, _, _, h, h2 => ⟨h.1, All2.set i h.2 h2⟩
theorem All2.filter {f : α → Bool} {g : β → Bool} (hfg : ∀ a b, R a b → f a = g b) : ∀ {xs : List α} {ys : List β}, All2 R xs ys → All2 R (xs.filter f) (ys.filter g)
  | [], [], _ => trivial
  | a :: xs, b :: ys, h => by
    rw [List.filter_cons, List.filter_cons, hfg a b h.1]
    split
    · exact ⟨h.1, All2.filter hfg h.2⟩
    · exact All2.filter hfg h.2
theorem All2.one {a : α} {b : β} (h : R a b) : All2 R [a] [b] := ⟨h, trivial⟩
theorem All2.nil : All2 R [] [] := trivial
end
section laws
variable {P : Program} {ds : List Deferred} {Q : Post} {K : List Value → World → Prop} {all os : List Oper} {l : List Value} {w0 w w' : World} {S S' : List Nat} {es es' : List Ent} {ty t : TypeId} {pos : String} {af : Array Edge} {d : Tmp} {v : Value} {op : Op}
  {x y : Operand} {zs cs : List Value} {sz bytes : Nat} {agg : Bool}
/-- copy, of elements of whatever size. -/
theorem ops_copyN {e : TypeId} (ht : P.underlying t = some (.slice e)) (he : TyOk P e zs sz bytes agg) (H : Hp w0 w S es) (i : Nat) {g o n m dc sc : Nat} {a : Addr} {T : TypeId} {cs vs : List Value} (hx : ev l x = some (.slice (some ⟨g, o, none⟩) n dc)) (hy : ev l y = some (.slice (some a) m sc))
    (hi : es[i]? = some (some g, T, cs)) (hn : vs.length = Nat.min m n * sz) (hsrc : ∀ j u, vs[j]? = some u → w.cell? (a.add j) = some u) (hfit : o + vs.length ≤ cs.length) (h1 : vs.all (·.oneCell') = true)
    (k : ∀ w', Hp w0 w' S (es.set i (some g, T, putAt cs o vs)) → Ops P ds all K Q os (l.set d (.int .i64 ((Nat.min m n : Nat) : Int))) w') :
    Ops P ds all K Q (⟨some d, .call { callee := .builtin .copy, args := #[x, y], argTypes := #[t, t] }, ty, pos, af, none⟩ :: os) l w := by
  obtain ⟨inf, z, dd, hinf, hz, hzs, rfl, hby, _, _⟩ := he.ex
  have hl := run_loadCells_list (P := P) w a vs hsrc
  rw [hn] at hl
  have hst := run_storeCells_at P g o T vs 0 cs.toArray w (H.at hi) (by simpa using hfit) (fun v hv => List.all_eq_true.1 h1 v hv)
  have e1 : (cs.toArray.toList.take (o + 0) ++ vs ++ cs.toArray.toList.drop (o + 0 + vs.length)).toArray = (putAt cs o vs).toArray := by simp [putAt]
  rw [e1] at hst
  refine ops_val (w' := w.setRow g (putAt cs o vs).toArray) ?_ (k _ (H.setRow hi _))
  intro _ _ _ _
  simp [execOp, resolve, invoke, builtin, Builtin.copy_, run_underlying ht, Builtin.lenOf, Builtin.firstCells, sizeOf, typeInfo, hinf, hl, hst, rho_of hx, rho_of hy, goInt]
/-- clear of a part of a row. -/
theorem ops_clear {e : TypeId} (ht : P.underlying t = some (.slice e)) (he : TyOk P e zs sz bytes agg) (H : Hp w0 w S es) (i : Nat) {g o n c : Nat} {T : TypeId} {cs : List Value} (hx : ev l x = some (.slice (some ⟨g, o, none⟩) n c))
    (hi : es[i]? = some (some g, T, cs)) (hfit : o + n * sz ≤ cs.length) (h1 : zs.all (·.oneCell') = true)
    (k : ∀ w', Hp w0 w' S (es.set i (some g, T, putAt cs o (initL zs n))) → Ops P ds all K Q os l w') :
    Ops P ds all K Q (⟨none, .call { callee := .builtin .clear, args := #[x], argTypes := #[t] }, ty, pos, af, none⟩ :: os) l w := by
  obtain ⟨z, hz, hr⟩ := run_zeroValue he
  have hlen : zs.length = sz := he.len
  have hzc : z.cells = zs.toArray := by rw [← hz]
  have hil : (initL zs n).length = n * sz := by rw [initL_length, hlen]
  have h1' : ∀ v ∈ initL zs n, v.oneCell' = true := by
    intro v hv
    obtain ⟨q, hq, hvq⟩ := List.mem_flatten.1 hv
    rw [(List.mem_replicate.1 hq).2] at hvq
    exact List.all_eq_true.1 h1 v hvq
  have hst := run_storeCells_at P g o T (initL zs n) 0 cs.toArray w (H.at hi) (by simpa [hil] using hfit) h1'
  have e1 : (cs.toArray.toList.take (o + 0) ++ initL zs n ++ cs.toArray.toList.drop (o + 0 + (initL zs n).length)).toArray = (putAt cs o (initL zs n)).toArray := by simp [putAt]
  rw [e1] at hst
  have hzz : (Builtin.zeroCells z.cells n).toList = initL zs n := by
    rw [hzc]
    have h2 := init_eq zs n
    rw [List.size_toArray] at h2
    unfold Builtin.zeroCells
    rw [List.size_toArray, h2]
  refine wpList_plain rfl fun K' hK => ?_
  unfold Oper.wp
  rw [rho_eq]
  have hx2 : (execOp (rho l) ⟨none, .call { callee := .builtin .clear, args := #[x], argTypes := #[t] }, ty, pos, af, none⟩).run P w = .ok (.value (.tuple #[])) (w.setRow g (putAt cs o (initL zs n)).toArray) := by
    cases n with
    | zero =>
      have h0 : initL zs 0 = [] := by simp [initL]
      have h3 : putAt cs o [] = cs := by simp [putAt]
      have hs := setRow_self w g cs.toArray T (0, 0) (H.at hi)
      rw [h0, h3, hs]
      simp [execOp, resolve, invoke, builtin, Builtin.clear_, run_underlying ht, rho_of hx]
    | succ n =>
      simp [execOp, resolve, invoke, builtin, Builtin.clear_, run_underlying ht, rho_of hx, hr, hzz, hst]
  rw [hx2, Oper.upon_value]
  exact hK _ _ (k _ (H.setRow hi _))
/-- append of make, where there is no room. -/
theorem ops_append0 {e tn : TypeId} {kn kq : IntKind} (ht : P.underlying t = some (.slice e)) (htn : P.underlying tn = some (.int kn)) (he : TyOk P e zs sz bytes agg) (hsz : 0 < sz) (H : Hp w0 w S es) {A0 : Option Addr} {n cap m : Nat} {xs : List Value} (hx : ev l x = some (.slice A0 n cap)) (hrx : Rd w A0 n sz xs)
    (hy : ev l y = some (.int kq (m : Int))) (h0 : 0 < m) (hg : cap < n + m) (h63 : n + m ≤ 9223372036854775807) (hb : (n + m) * bytes ≤ 211106232532992) (hb2 : bytes ≤ 1048576)
    (k : ∀ w' g cap' sp', Hp w0 w' S (es ++ [(some g, e, (xs ++ initL zs m) ++ sp')]) → cap' * sz ≤ ((xs ++ initL zs m) ++ sp').length → n + m ≤ cap' → Ops P ds all K Q os (l.set d (.slice (hd (some g)) (n + m) cap')) w') :
    Ops P ds all K Q (⟨some d, .call { callee := .builtin .append, args := #[x, y], argTypes := #[t, tn] }, ty, pos, af, none⟩ :: os) l w := by
  obtain ⟨inf, z, dd, hinf, hz, hzs, rfl, rfl, _, _⟩ := he.ex
  have hzsz : z.cells.size = zs.length := by rw [← hzs]; simp
  have hlen : zs.length = inf.size := he.len
  have hzc : z.cells = zs.toArray := by rw [← hzs]
  have hfit := fits hg hb hb2
  have hold : (Builtin.firstCells inf.size n (.slice A0 n cap)).run P w.drew = .ok xs.toArray w.drew := by
    cases A0 with
    | none =>
      have hn0 := hrx.nil rfl
      subst hn0
      have hxs : xs = [] := List.eq_nil_of_length_eq_zero (by simpa using hrx.len)
      subst hxs
      exact run_firstCells_none _ _ _ _ _
    | some a => exact run_firstCells_some _ inf.size n a n cap xs hrx.len (fun j u hu => hrx.cells a rfl j u hu)
  have hrun := Lib.run_append_grow_zeros (P := P) w t tn ty e inf z kq kn ht htn hinf hz A0 n cap xs hold m h0 hsz hg (by omega) (Nat.le_trans (Nat.le_trans (Nat.mul_le_mul_right _ (Nat.le_add_left m n)) hb) (by omega)) hfit
  have hge := grownCap_ge w (n + m) cap e
  have hzm : ∀ q, Builtin.zeroCells z.cells q = (initL zs q).toArray := by
    intro q
    rw [hzc]
    have h2 := init_eq zs q
    rw [List.size_toArray] at h2
    unfold Builtin.zeroCells
    rw [List.size_toArray, h2]
  rw [hzm, hzm] at hrun
  have H2 := (Hp.drew H).alloc e ((xs ++ initL zs m) ++ initL zs (grownCap w (n + m) cap e - (n + m)))
  refine ops_val (w' := w.drew.alloc (.cells ((xs ++ initL zs m) ++ initL zs (grownCap w (n + m) cap e - (n + m))).toArray e)) ?_ (k _ w.heap.size (grownCap w (n + m) cap e) (initL zs (grownCap w (n + m) cap e - (n + m))) H2 ?_ hge)
  · intro _ _ _ _
    have e2 : (xs.toArray ++ (initL zs m).toArray ++ (initL zs (grownCap w (n + m) cap e - (n + m))).toArray) = ((xs ++ initL zs m) ++ initL zs (grownCap w (n + m) cap e - (n + m))).toArray := by simp
    rw [e2] at hrun
    simp [execOp, resolve, invoke, builtin, rho_of hx, rho_of hy, hrun]
  · simp only [List.length_append, initL_length, hrx.len, hlen, ← Nat.add_mul]
    exact Nat.mul_le_mul_right _ (by omega)
/-- A call whose answer is a test. -/
theorem ops_call_test {f : FuncId} {args : Array Value} {p : Prop} {_ : Decidable p} {R : World → Prop} (hx : Ex P l op ty w (.enter f args) w) (hc : Does P f args w fun r w' => r = .bool (decide p) ∧ R w')
    (h1 : p → ∀ w', R w' → Ops P ds all K Q os (l.set d (.bool true)) w') (h2 : ¬ p → ∀ w', R w' → Ops P ds all K Q os (l.set d (.bool false)) w') : Ops P ds all K Q (⟨some d, op, ty, pos, af, none⟩ :: os) l w :=
  ops_call_val hx hc fun w' hr => by
    by_cases hp : p
    · rw [decide_eq_true hp]; exact h1 hp w' hr
    · rw [decide_eq_false hp]; exact h2 hp w' hr
theorem ops_call_true {f : FuncId} {args : Array Value} {p : Prop} {_ : Decidable p} {R : World → Prop} (hx : Ex P l op ty w (.enter f args) w) (hc : Does P f args w fun r w' => r = .bool (decide p) ∧ R w')
    (hp : p) (h1 : ∀ w', R w' → Ops P ds all K Q os (l.set d (.bool true)) w') : Ops P ds all K Q (⟨some d, op, ty, pos, af, none⟩ :: os) l w :=
  ops_call_test hx hc (fun _ => h1) fun h => absurd hp h
theorem bt {p : Prop} {_ : Decidable p} (h : p) : Value.bool true = .bool (decide p) := by rw [decide_eq_true h]
theorem bf {p : Prop} {_ : Decidable p} (h : ¬ p) : Value.bool false = .bool (decide p) := by rw [decide_eq_false h]
/-- A call of an entry of the model's own. -/
theorem ops_extern {f : FuncId} {fn : Func} {e : Array Value → Sem Value} {xs : List Operand} {vs : List Value} {ats : Array TypeId} (hf : P.funcs[f]? = some fn) (hname : (fn.name == "runtime.NumGoroutine") = false) (hb : fn.body.isNone = true) (hn : Extern.findNext fn = none) (he : Extern.find fn = some e)
    (hx : evs l xs = some vs) (hr : (e vs.toArray).run P w = .ok v w) (h : Ops P ds all K Q os (l.set d v) w) :
    Ops P ds all K Q (⟨some d, .call { callee := .value (.func f), args := xs.toArray, argTypes := ats }, ty, pos, af, none⟩ :: os) l w := by
  refine ops_val ?_ h
  intro _ _ _ _
  have hq := run_callFunc_extern hf hname hb hn he vs.toArray w
  have hr2 : rho l (.func f) = .func (.func f) #[] #[] := rfl
  simp only [hr, Result.andThen_ok] at hq
  simp [execOp, resolve, Deferred.ofValue, invoke, rhos_of hx, hq, hr2]
/-! Maps: made, and written into; what is in them is not told. -/
theorem Hp.newObj (H : Hp w0 w S es) (o : Obj) : Hp w0 (w.alloc o) S es := H.allocAny o
theorem ops_makeMap (H : Hp w0 w S es) (k : ∀ w' g, Hp w0 w' S es → w'.heap[g]? = some (.map #[] 0) → g = w.heap.size → Ops P ds all K Q os (l.set d (.map (some g))) w') : Ops P ds all K Q (⟨some d, .makeMap t none, ty, pos, af, none⟩ :: os) l w := by
  refine ops_val (w' := w.alloc (.map #[] 0)) ?_ (k _ w.heap.size (H.allocAny _) (heap_alloc_new w _) rfl)
  intro _ _ _ _
  simp [execOp, Instr.makeMap, newObj, Sem.run]
/-- A map, all of whose keys are numbers. -/
def IntMap (w : World) (r : Nat) : Prop := ∃ es clock, w.heap[r]? = some (.map es clock) ∧ ∀ x ∈ es.toList, MapKept.IsKey (.int .i64) x.key
theorem IntMap.not {w : World} {r : Nat} (h : IntMap w r) : ∀ arr T z, w.heap[r]? ≠ some (.cells arr T z) := by
  obtain ⟨es, c, h, _⟩ := h
  intro arr T z h2
  rw [h] at h2
  cases h2
theorem IntMap.new {w : World} {r : Nat} (h : w.heap[r]? = some (.map #[] 0)) : IntMap w r := ⟨_, _, h, fun x hx => by cases hx⟩
theorem IntMap.to {w w' : World} {S : List Nat} {es : List Ent} {r : Nat} (h : IntMap w r) (H : Hp w w' S es) (hr : r ∉ S) : IntMap w' r := by
  obtain ⟨a, c, h1, h2⟩ := h
  exact ⟨a, c, (H.frame r (Array.getElem?_eq_some_iff.1 h1).1 hr).trans h1, h2⟩
theorem Hp.putM (H : Hp w0 w S es) {r : Nat} {o : Obj} (hn : ∀ arr T z, w.heap[r]? ≠ some (.cells arr T z)) (hr : w0.heap.size ≤ r) : Hp w0 { w with heap := w.heap.setIfInBounds r o } S es := by
  refine ⟨H.os, H.tape, H.output, by simpa using H.size, ?_, ?_, H.apart⟩
  · intro k hk hS
    have h1 : ¬ r = k := by omega
    rw [← H.frame k hk hS]
    simp [h1]
  · intro i e he
    have h := H.ent i e he
    unfold EntOk at h ⊢
    split
    · rename_i hg; rw [hg] at h; exact h
    · rename_i g hg
      rw [hg] at h
      have h1 : ¬ r = g := fun hh => hn _ _ _ (by rw [hh]; exact h.1)
      exact ⟨by rw [← h.1]; simp [h1], h.2⟩
theorem ops_mapUpdate {kt et : TypeId} {z : Operand} (hm : P.underlying t = some (.map kt et)) (hd : P.underlying kt = some (.int .i64)) (H : Hp w0 w S es) {r : Nat} {n : Int} (hx : ev l x = some (.map (some r))) (hy : ev l y = some (.int .i64 n)) (hz : ev l z = some v) (hI : IntMap w r) (hr : w0.heap.size ≤ r)
    (k : ∀ w', Hp w0 w' S es → IntMap w' r → w'.heap.size = w.heap.size → Ops P ds all K Q os l w') : Ops P ds all K Q (⟨none, .mapUpdate t x y z, ty, pos, af, none⟩ :: os) l w := by
  obtain ⟨mes, clock, hb, hks⟩ := hI
  have hk : MapKept.IsKey (.int .i64) (.int .i64 n) := rfl
  have key : ∃ o, (Instr.mapUpdate t (.map (some r)) (.int .i64 n) v).run P w = .ok () { w with heap := w.heap.setIfInBounds r o } ∧ IntMap { w with heap := w.heap.setIfInBounds r o } r := by
    rcases MapKept.findNow_spec hk mes.toList 0 hks with ⟨h1, _⟩ | ⟨j, e, h1, h2, h3⟩
    · refine ⟨.map (mes.push { key := .int .i64 n, val := v, born := clock }) (clock + 1), ?_, _, _, (MapKept.heap_set hb).1, ?_⟩
      · simp [Instr.mapUpdate, run_underlying hm, MapKept.run_getObj_map hb, MapKept.run_checkKey hd hk, MapKept.run_findKey hd h1, MapKept.run_setObj_map _ hb, Result.andThen]
      · intro x hx
        simp only [Array.toList_push, List.mem_append, List.mem_singleton] at hx
        rcases hx with hx | rfl
        · exact hks x hx
        · exact hk
    · have hj : mes[j]? = some e := by simpa using h2
      refine ⟨.map (mes.modify j fun e => { e with key := .int .i64 n, val := v }) clock, ?_, _, _, (MapKept.heap_set hb).1, ?_⟩
      · simp [Instr.mapUpdate, run_underlying hm, MapKept.run_getObj_map hb, MapKept.run_checkKey hd hk, MapKept.run_findKey hd h1, hj, h3, MapKept.run_keyThatStays hk, MapKept.run_setObj_map _ hb, Result.andThen]
      · intro x hx
        obtain ⟨i, hi⟩ := List.getElem?_of_mem hx
        rw [Array.getElem?_toList, Array.getElem?_modify] at hi
        split at hi
        · cases h5 : mes[i]? with
          | none => rw [h5] at hi; cases hi
          | some y => rw [h5] at hi; simp only [Option.map_some, Option.some.injEq] at hi; subst hi; exact hk
        · exact hks x (by rw [Array.mem_toList_iff]; exact Array.mem_of_getElem? hi)
  obtain ⟨o, hrun, hI2⟩ := key
  refine ops_skip ?_ (k _ (H.putM (fun arr T z h => by rw [hb] at h; cases h) hr) hI2 (by simp))
  intro _ _ _ _
  simp [execOp, rho_of hx, rho_of hy, rho_of hz, hrun]
/-! Equality of structs of whatever cells is told by the kit at a struct's own type: here of two numbers. -/
end laws
end Go.Proofs.YtjoeklkmnfaabaaGreat
