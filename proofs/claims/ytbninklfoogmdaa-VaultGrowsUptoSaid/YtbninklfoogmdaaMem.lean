/-
  Memory as a list of rows that the call knows; the operations' laws, one an operation.
-/
import Derived.Test.YtbninklfoogmdaaBase
namespace Go.Proofs.Ytbninklfoogmdaa
open Go Go.RowKit

/-! ### Memory -/
/-- A row: its block (none: it has none yet, and no cells), its elements' type, its cells. -/
abbrev Ent := Option Nat × TypeId × List Value
def EntOk (w0 w : World) (S : List Nat) (e : Ent) : Prop :=
  match e.1 with
  | none => e.2.2 = []
  | some g => w.heap[g]? = some (.cells e.2.2.toArray e.2.1 (0, 0)) ∧ (g ∈ S ∨ w0.heap.size ≤ g)
/-- The world w, seen from w0: of what was there only the blocks S may have turned; these rows stand there now, each in a block of its own. -/
structure Hp (w0 w : World) (S : List Nat) (es : List Ent) : Prop where
  os : w.os = w0.os
  tape : w.tape = w0.tape
  output : w.output = w0.output
  size : w0.heap.size ≤ w.heap.size
  frame : ∀ k, k < w0.heap.size → k ∉ S → w.heap[k]? = w0.heap[k]?
  ent : ∀ (i : Nat) (e : Ent), es[i]? = some e → EntOk w0 w S e
  apart : ∀ (i j : Nat) (e f : Ent) (g : Nat), es[i]? = some e → es[j]? = some f → e.1 = some g → f.1 = some g → i = j

abbrev hd (g : Option Nat) : Option Addr := g.map fun b => ⟨b, 0, none⟩

section mem
variable {w0 w w' : World} {S S' : List Nat} {es es' : List Ent} {i : Nat} {g : Nat} {T : TypeId} {cs : List Value}
theorem Hp.refl (w : World) : Hp w w [] [] := ⟨rfl, rfl, rfl, Nat.le_refl _, fun _ _ _ => rfl, by simp, by simp⟩
theorem Hp.at (H : Hp w0 w S es) (he : es[i]? = some (some g, T, cs)) : w.heap[g]? = some (.cells cs.toArray T (0, 0)) := (H.ent i _ he).1
theorem Hp.lt (H : Hp w0 w S es) (he : es[i]? = some (some g, T, cs)) : g < w.heap.size := (Array.getElem?_eq_some_iff.1 (H.at he)).1
theorem Hp.place (H : Hp w0 w S es) (he : es[i]? = some (some g, T, cs)) : g ∈ S ∨ w0.heap.size ≤ g := (H.ent i _ he).2
theorem Hp.none_ (H : Hp w0 w S es) (he : es[i]? = some (none, T, cs)) : cs = [] := H.ent i _ he
theorem Hp.cell (H : Hp w0 w S es) (he : es[i]? = some (some g, T, cs)) {o : Nat} {v : Value} (hv : cs[o]? = some v) : w.cell? ⟨g, o, none⟩ = some v := by
  simp [World.cell?, H.at he, hv]
theorem Hp.drew (H : Hp w0 w S es) : Hp w0 { w with drawn := w.drawn + 1 } S es := ⟨H.os, H.tape, H.output, H.size, H.frame, H.ent, H.apart⟩
theorem lt_of_get {α : Type} {l : List α} {i : Nat} {x : α} (h : l[i]? = some x) : i < l.length := (List.getElem?_eq_some_iff.1 h).1
theorem Hp.ent_lt (H : Hp w0 w S es) {e : Ent} (he : es[i]? = some e) {g : Nat} (hg : e.1 = some g) : g < w.heap.size := by
  obtain ⟨a, b, c⟩ := e
  simp only at hg
  subst hg
  exact H.lt he
theorem Hp.alloc (H : Hp w0 w S es) (T : TypeId) (cs : List Value) : Hp w0 (w.alloc (.cells cs.toArray T)) S (es ++ [(some w.heap.size, T, cs)]) := by
  refine ⟨H.os, H.tape, H.output, ?_, ?_, ?_, ?_⟩
  · have := H.size; simp; omega
  · intro k hk hS
    rw [heap_alloc_old w _ (by have := H.size; omega)]
    exact H.frame k hk hS
  · intro i e he
    rcases Nat.lt_or_ge i es.length with hi | hi
    · rw [List.getElem?_append_left hi] at he
      have h := H.ent i e he
      unfold EntOk at h ⊢
      split
      · rename_i hn; rw [hn] at h; exact h
      · rename_i g hg
        rw [hg] at h
        exact ⟨by rw [heap_alloc_old w _ (H.ent_lt he hg)]; exact h.1, h.2⟩
    · rw [List.getElem?_append_right hi] at he
      cases hj : i - es.length with
      | zero =>
        rw [hj] at he
        simp at he
        subst he
        exact ⟨heap_alloc_new w _, .inr H.size⟩
      | succ n => rw [hj] at he; simp at he
  · intro i j e f g hi hj hge hgf
    have key : ∀ (i : Nat) (e : Ent), (es ++ [(some w.heap.size, T, cs)])[i]? = some e → e.1 = some g → (i < es.length ∧ es[i]? = some e ∧ g < w.heap.size) ∨ (i = es.length ∧ g = w.heap.size) := by
      intro i e hi hg
      rcases Nat.lt_or_ge i es.length with h | h
      · rw [List.getElem?_append_left h] at hi
        exact .inl ⟨h, hi, H.ent_lt hi hg⟩
      · rw [List.getElem?_append_right h] at hi
        cases hk : i - es.length with
        | zero =>
          rw [hk] at hi
          simp at hi
          subst hi
          simp only [Option.some.injEq] at hg
          exact .inr ⟨by omega, hg.symm⟩
        | succ n => rw [hk] at hi; simp at hi
    rcases key i e hi hge with ⟨h1, h2, h3⟩ | ⟨h1, h2⟩ <;> rcases key j f hj hgf with ⟨h4, h5, h6⟩ | ⟨h4, h5⟩
    · exact H.apart i j e f g h2 h5 hge hgf
    · omega
    · omega
    · omega
/-- A slice that is nil owns a row without a block. -/
theorem Hp.nil (H : Hp w0 w S es) (T : TypeId) : Hp w0 w S (es ++ [(none, T, [])]) := by
  have key : ∀ (i : Nat) (e : Ent), (es ++ [((none : Option Nat), T, ([] : List Value))])[i]? = some e → es[i]? = some e ∨ e = (none, T, []) := by
    intro i e hi
    rcases Nat.lt_or_ge i es.length with h | h
    · rw [List.getElem?_append_left h] at hi; exact .inl hi
    · rw [List.getElem?_append_right h] at hi
      cases hk : i - es.length with
      | zero => rw [hk] at hi; simp at hi; exact .inr hi.symm
      | succ n => rw [hk] at hi; simp at hi
  refine ⟨H.os, H.tape, H.output, H.size, H.frame, ?_, ?_⟩
  · intro i e he
    rcases key i e he with h | rfl
    · exact H.ent i e h
    · rfl
  · intro i j e f g hi hj hge hgf
    rcases key i e hi with h | rfl
    · rcases key j f hj with h' | rfl
      · exact H.apart i j e f g h h' hge hgf
      · simp at hgf
    · simp at hge
/-- What is known of other rows, in another order. -/
theorem Hp.pick (H : Hp w0 w S es) (idx : List Nat) (hnd : idx.Nodup) : Hp w0 w S (idx.map fun i => es.getD i (none, 0, [])) := by
  have key : ∀ (k : Nat) (e : Ent), (idx.map fun i => es.getD i (none, 0, []))[k]? = some e → ∃ i, idx[k]? = some i ∧ (es[i]? = some e ∨ e = (none, 0, [])) := by
    intro k e hk
    rw [List.getElem?_map] at hk
    cases hi : idx[k]? with
    | none => rw [hi] at hk; simp at hk
    | some i =>
      rw [hi] at hk
      simp only [Option.map_some, Option.some.injEq] at hk
      refine ⟨i, rfl, ?_⟩
      cases he : es[i]? with
      | none => rw [List.getD_eq_getElem?_getD, he] at hk; exact .inr hk.symm
      | some x => rw [List.getD_eq_getElem?_getD, he] at hk; simp only [Option.getD_some] at hk; subst hk; exact .inl rfl
  refine ⟨H.os, H.tape, H.output, H.size, H.frame, ?_, ?_⟩
  · intro k e he
    obtain ⟨i, _, h | rfl⟩ := key k e he
    · exact H.ent i e h
    · rfl
  · intro a b e f g ha hb hge hgf
    obtain ⟨i, hi, h | rfl⟩ := key a e ha
    · obtain ⟨j, hj, h' | rfl⟩ := key b f hb
      · have := H.apart i j e f g h h' hge hgf
        subst this
        have h1 := List.getElem?_eq_some_iff.1 hi
        have h2 := List.getElem?_eq_some_iff.1 hj
        obtain ⟨x1, x2⟩ := h1
        obtain ⟨y1, y2⟩ := h2
        have hp := List.pairwise_iff_getElem.1 hnd
        rcases Nat.lt_trichotomy a b with hab | hab | hab
        · exact absurd (x2.trans y2.symm) (hp a b x1 y1 hab)
        · exact hab
        · exact absurd (y2.trans x2.symm) (hp b a y1 x1 hab)
      · simp at hgf
    · simp at hge
/-- One row written anew. -/
theorem Hp.setRow (H : Hp w0 w S es) (he : es[i]? = some (some g, T, cs)) (cs' : List Value) : Hp w0 (w.setRow g cs'.toArray) S (es.set i (some g, T, cs')) := by
  have hne : ∀ (j : Nat) (e : Ent) (h : Nat), es[j]? = some e → e.1 = some h → j ≠ i → h ≠ g := by
    intro j e h hj hh hji heq
    subst heq
    exact hji (H.apart j i _ _ h hj he hh rfl)
  refine ⟨H.os, H.tape, H.output, by simpa using H.size, ?_, ?_, ?_⟩
  · intro k hk hS
    have hkg : k ≠ g := by
      rintro rfl
      rcases H.place he with h | h
      · exact hS h
      · omega
    rw [setRow_other _ _ _ _ hkg]
    exact H.frame k hk hS
  · intro j e hj
    rw [List.getElem?_set] at hj
    split at hj
    · rename_i hij
      split at hj
      · simp only [Option.some.injEq] at hj
        subst hj
        exact ⟨setRow_heap _ _ _ _ _ _ (H.at he), H.place he⟩
      · simp at hj
    · rename_i hij
      have h := H.ent j e hj
      unfold EntOk at h ⊢
      split
      · rename_i hn; rw [hn] at h; exact h
      · rename_i k hk
        rw [hk] at h
        exact ⟨by rw [setRow_other _ _ _ _ (hne j e k hj hk (Ne.symm hij))]; exact h.1, h.2⟩
  · have key : ∀ (j : Nat) (e : Ent), (es.set i (some g, T, cs'))[j]? = some e → ∃ e' : Ent, es[j]? = some e' ∧ e'.1 = e.1 := by
      intro j e hj
      rw [List.getElem?_set] at hj
      split at hj
      · rename_i hij
        split at hj
        · simp only [Option.some.injEq] at hj; subst hj; exact ⟨(some g, T, cs), by rw [← hij]; exact he, rfl⟩
        · simp at hj
      · exact ⟨e, hj, rfl⟩
    intro a b e f k ha hb hge hgf
    obtain ⟨e', he', h1⟩ := key a e ha
    obtain ⟨f', hf', h2⟩ := key b f hb
    exact H.apart a b e' f' k he' hf' (h1.trans hge) (h2.trans hgf)
/-- Rows that are no longer told of. -/
def kill (es : List Ent) : List Nat → List Ent
  | [] => es
  | i :: is => (kill es is).set i (none, 0, [])
theorem kill_get : ∀ (is : List Nat) (j : Nat) (e : Ent), (kill es is)[j]? = some e → (es[j]? = some e ∧ j ∉ is) ∨ e = (none, 0, [])
  | [], j, e, h => .inl ⟨h, by simp⟩
  | i :: is, j, e, h => by
    simp only [kill] at h
    rw [List.getElem?_set] at h
    split at h
    · split at h
      · simp only [Option.some.injEq] at h; exact .inr h.symm
      · simp at h
    · rename_i hij
      rcases kill_get is j e h with ⟨h1, h2⟩ | h1
      · exact .inl ⟨h1, by simp [h2, Ne.symm hij]⟩
      · exact .inr h1
/-- Behind a call that may have written the blocks S', all of them rows that are told of here. -/
theorem Hp.call (H : Hp w0 w S es) (H' : Hp w w' S' es') (is : List Nat) (hS : ∀ b ∈ S', ∃ i ∈ is, ∃ T cs, es[i]? = some (some b, T, cs)) : Hp w0 w' S (kill es is ++ es') := by
  have hold : ∀ b, b ∈ S' → b ∈ S ∨ w0.heap.size ≤ b := by
    intro b hb
    obtain ⟨i, _, T, cs, he⟩ := hS b hb
    exact H.place he
  have hk : ∀ (j : Nat) (e : Ent) (h : Nat), (kill es is)[j]? = some e → e.1 = some h → es[j]? = some e ∧ h ∉ S' ∧ h < w.heap.size := by
    intro j e h hj hh
    rcases kill_get is j e hj with ⟨h1, h2⟩ | rfl
    · refine ⟨h1, ?_, H.ent_lt h1 hh⟩
      intro hb
      obtain ⟨i, hi, T, cs, he⟩ := hS h hb
      have := H.apart j i e _ h h1 he hh rfl
      subst this
      exact h2 hi
    · simp at hh
  have hlen : (kill es is).length = es.length := by
    clear hk hS
    induction is with
    | nil => rfl
    | cons i is ih => simp [kill, ih]
  refine ⟨H'.os.trans H.os, H'.tape.trans H.tape, H'.output.trans H.output, Nat.le_trans H.size H'.size, ?_, ?_, ?_⟩
  · intro k hk0 hkS
    rw [H'.frame k (by have := H.size; omega) (fun hb => by rcases hold k hb with h | h; exact hkS h; omega)]
    exact H.frame k hk0 hkS
  · intro j e hj
    rcases Nat.lt_or_ge j (kill es is).length with h | h
    · rw [List.getElem?_append_left h] at hj
      unfold EntOk
      split
      · rename_i hn
        rcases kill_get is j e hj with ⟨h1, _⟩ | rfl
        · have := H.ent j e h1; unfold EntOk at this; rw [hn] at this; exact this
        · rfl
      · rename_i k hk'
        obtain ⟨h1, h2, h3⟩ := hk j e k hj hk'
        have := H.ent j e h1
        unfold EntOk at this
        rw [hk'] at this
        exact ⟨by rw [H'.frame k h3 h2]; exact this.1, this.2⟩
    · rw [List.getElem?_append_right h] at hj
      have := H'.ent _ e hj
      unfold EntOk at this ⊢
      split
      · rename_i hn; rw [hn] at this; exact this
      · rename_i k hk'
        rw [hk'] at this
        refine ⟨this.1, ?_⟩
        rcases this.2 with h1 | h1
        · exact hold k h1
        · exact .inr (Nat.le_trans H.size h1)
  · have key : ∀ (j : Nat) (e : Ent) (g : Nat), (kill es is ++ es')[j]? = some e → e.1 = some g → (j < es.length ∧ es[j]? = some e ∧ g ∉ S' ∧ g < w.heap.size) ∨ (es.length ≤ j ∧ es'[j - es.length]? = some e ∧ (g ∈ S' ∨ w.heap.size ≤ g)) := by
      intro j e g hj hg
      rcases Nat.lt_or_ge j (kill es is).length with h | h
      · rw [List.getElem?_append_left h] at hj
        exact .inl ⟨by omega, hk j e g hj hg⟩
      · rw [List.getElem?_append_right h, hlen] at hj
        have := H'.ent _ e hj
        unfold EntOk at this
        rw [hg] at this
        exact .inr ⟨by omega, hj, this.2⟩
    intro a b e f g ha hb hge hgf
    rcases key a e g ha hge with ⟨_, h2, h3, h4⟩ | ⟨h1, h2, h3⟩ <;> rcases key b f g hb hgf with ⟨_, h6, h7, h8⟩ | ⟨h5, h6, h7⟩
    · exact H.apart a b e f g h2 h6 hge hgf
    · rcases h7 with h | h
      · exact absurd h h3
      · omega
    · rcases h3 with h | h
      · exact absurd h h7
      · omega
    · have := H'.apart _ _ e f g h2 h6 hge hgf
      omega
theorem Hp.call0 (H : Hp w0 w S es) (H' : Hp w w' [] es') : Hp w0 w' S (es ++ es') := H.call H' [] (by simp)
theorem Hp.call1 (H : Hp w0 w S es) (he : es[i]? = some (some g, T, cs)) (H' : Hp w w' [g] es') : Hp w0 w' S (es.set i (none, 0, []) ++ es') :=
  H.call H' [i] (by intro b hb; simp at hb; subst hb; exact ⟨i, by simp, T, cs, he⟩)
/-- A row out of a block that was there. -/
theorem Hp.old (hg : w.heap[g]? = some (.cells cs.toArray T (0, 0))) : Hp w w [g] [(some g, T, cs)] := by
  refine ⟨rfl, rfl, rfl, Nat.le_refl _, fun _ _ _ => rfl, ?_, ?_⟩
  · intro i e he
    cases i with
    | zero => simp at he; subst he; exact ⟨hg, .inl (by simp)⟩
    | succ n => simp at he
  · intro i j e f _ hi hj _ _
    cases i with
    | zero => cases j with
      | zero => rfl
      | succ n => simp at hj
    | succ n => simp at hi
theorem Hp.below (H : Hp w0 w [] es) : Below w0.heap.size w0 w := ⟨H.os, H.tape, H.output, H.size, fun k hk => H.frame k hk (by simp)⟩

/-! ### A slice that reads as a list of cells -/
structure Rd (w : World) (A : Option Addr) (n sz : Nat) (xs : List Value) : Prop where
  len : xs.length = n * sz
  cells : ∀ a, A = some a → ∀ j u, xs[j]? = some u → w.cell? (a.add j) = some u
  nil : A = none → n = 0
theorem Rd.to {A : Option Addr} {n sz : Nat} {xs : List Value} (h : Rd w0 A n sz xs) (H : Hp w0 w S es) (hS : ∀ a, A = some a → a.block ∉ S) : Rd w A n sz xs := by
  refine ⟨h.len, fun a ha j u hu => ?_, h.nil⟩
  have hc := h.cells a ha j u hu
  have hb : (a.add j).block = a.block := by unfold Addr.add; split <;> rfl
  have hlt := World.block_lt_of_cell? w0 _ hc
  rw [World.cell?_of_block (w := w0)]
  · exact hc
  · exact H.frame _ hlt (by rw [hb]; exact hS a ha)
theorem Rd.to0 {A : Option Addr} {n sz : Nat} {xs : List Value} (h : Rd w0 A n sz xs) (H : Hp w0 w [] es) : Rd w A n sz xs := h.to H (by simp)
theorem Hp.rd (H : Hp w0 w S es) {o : Option Nat} {xs sp : List Value} (he : es[i]? = some (o, T, xs ++ sp)) {n sz : Nat} (hn : xs.length = n * sz) (hz : 0 < sz) : Rd w (hd o) n sz xs := by
  cases o with
  | none =>
    have := H.none_ he
    have hx : xs = [] := (List.append_eq_nil_iff.1 this).1
    subst hx
    refine ⟨hn, by simp [hd], fun _ => ?_⟩
    simp only [List.length_nil] at hn
    rcases Nat.mul_eq_zero.1 hn.symm with h | h
    · exact h
    · omega
  | some g =>
    refine ⟨hn, fun a ha j u hu => ?_, by simp [hd]⟩
    simp only [hd, Option.map_some, Option.some.injEq] at ha
    subst ha
    rw [Addr.add_lit, Nat.zero_add]
    refine H.cell he ?_
    rw [List.getElem?_append_left (lt_of_get hu)]
    exact hu
theorem add_add (a : Addr) (i j : Nat) : (a.add i).add j = a.add (i + j) := by
  unfold Addr.add
  by_cases hi : i = 0 <;> by_cases hj : j = 0 <;> simp [hi, hj, Nat.add_assoc]
/-- A cut of a slice. -/
theorem Rd.cut {A : Option Addr} {n sz : Nat} {xs : List Value} (h : Rd w A n sz xs) (lo hi mx : Nat) (h1 : lo ≤ hi) (h2 : hi ≤ n) (h3 : hi ≤ mx) :
    Rd w (if mx = lo then A else A.map (·.add (lo * sz))) (hi - lo) sz ((xs.drop (lo * sz)).take ((hi - lo) * sz)) := by
  refine ⟨?_, ?_, ?_⟩
  · rw [List.length_take, List.length_drop, h.len, ← Nat.sub_mul]
    exact Nat.min_eq_left (Nat.mul_le_mul_right _ (by omega))
  · intro a ha j u hu
    by_cases hm : mx = lo
    · have : hi - lo = 0 := by omega
      rw [this] at hu
      simp at hu
    · rw [if_neg hm] at ha
      cases A with
      | none => simp at ha
      | some b =>
        simp only [Option.map_some, Option.some.injEq] at ha
        subst ha
        rw [add_add]
        refine h.cells b rfl _ u ?_
        rw [List.getElem?_take] at hu
        split at hu
        · rwa [List.getElem?_drop] at hu
        · cases hu
  · intro hA
    by_cases hm : mx = lo
    · omega
    · rw [if_neg hm] at hA
      cases A with
      | none => have := h.nil rfl; omega
      | some b => simp at hA
theorem Rd.none_ (w : World) (sz : Nat) : Rd w none 0 sz [] := ⟨by simp, by simp, fun _ => rfl⟩
theorem Rd.some_ {A : Option Addr} {n sz : Nat} {xs : List Value} (h : Rd w A n sz xs) (hn : 0 < n) : ∃ a, A = some a := by
  cases A with
  | none => have := h.nil rfl; omega
  | some a => exact ⟨a, rfl⟩
end mem
end Go.Proofs.Ytbninklfoogmdaa
