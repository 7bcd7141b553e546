/-
  What a vault has: ballots, votes, entries, rights, marks, books, notes; how they lie in memory; what a note does to a book.
-/
import Derived.Test.YtbninklfoogmdaaRow
namespace Go.Proofs.Ytbninklfoogmdaa
open Go Go.RowKit

structure Bal where
  r : Int
  n : Int
structure Vt where
  slot : Int
  b : Bal
  val : Blk
structure En where
  slot : Int
  val : Blk
structure Rt where
  g : Int
  key : Blk
  lease : Int
  net : Int
structure Mk where
  client : Int
  seq : Int
structure Sv where
  p : Bal
  votes : List Vt
  index : Int
  image : Blk
  entries : List En
structure Bo where
  groups : List Sv
  rights : List Rt
  last : List Mk
structure Nt where
  kind : Int
  group : Int
  b : Bal
  vote : Vt
  entry : En
  right : Rt
  client : Int
  seq : Int

/-! ### How they lie -/
def strV (s : Blk) : Value := .string ⟨s.toArray⟩
def Bs (w : World) (ok : Nat → Prop) (A : Option Addr) (b : Blk) : Prop := Rd w A b.length 1 (u8s b) ∧ (0 < b.length → ∀ p, A = some p → ok p.block) ∧ b.length ≤ 140737488351232
def Sl {X : Type} (R : List Value → X → Prop) (sz : Nat) (w : World) (ok : Nat → Prop) (A : Option Addr) (xs : List X) : Prop :=
  ∃ ps, Pl sz ps ∧ Rd w A xs.length sz ps.flatten ∧ (0 < xs.length → ∀ p, A = some p → ok p.block) ∧ All2 R ps xs
def VtR (w : World) (ok : Nat → Prop) (p : List Value) (x : Vt) : Prop := ∃ A k, p = [.int .i64 x.slot, .int .i64 x.b.r, .int .i64 x.b.n, .slice A x.val.length k] ∧ Bs w ok A x.val
def EnR (w : World) (ok : Nat → Prop) (p : List Value) (x : En) : Prop := ∃ A k, p = [.int .i64 x.slot, .slice A x.val.length k] ∧ Bs w ok A x.val
@[reducible] def rtC (x : Rt) : List Value := [.int .i64 x.g, strV x.key, .int .i64 x.lease, .int .i64 x.net]
@[reducible] def mkC (x : Mk) : List Value := [.int .i64 x.client, .int .i64 x.seq, .bool false, .int .i64 0, .int .i64 0, .int .i64 0, .int .i64 0]
def RtR (p : List Value) (x : Rt) : Prop := p = rtC x
def MkR (p : List Value) (x : Mk) : Prop := p = mkC x
def SvR (w : World) (ok : Nat → Prop) (p : List Value) (s : Sv) : Prop :=
  ∃ A1 k1 A2 k2 A3 k3, p = [.int .i64 s.p.r, .int .i64 s.p.n, .slice A1 s.votes.length k1, .int .i64 s.index, .slice A2 s.image.length k2, .slice A3 s.entries.length k3] ∧
    Sl (VtR w ok) 4 w ok A1 s.votes ∧ Bs w ok A2 s.image ∧ Sl (EnR w ok) 2 w ok A3 s.entries
def BoR (w : World) (ok : Nat → Prop) (p : List Value) (b : Bo) : Prop :=
  ∃ A1 k1 A2 k2 A3 k3, p = [.slice A1 b.groups.length k1, .slice A2 b.rights.length k2, .slice A3 b.last.length k3] ∧
    Sl (SvR w ok) 6 w ok A1 b.groups ∧ Sl RtR 4 w ok A2 b.rights ∧ Sl MkR 7 w ok A3 b.last
@[reducible] def ntC (n : Nt) (A1 : Option Addr) (k1 : Nat) (A2 : Option Addr) (k2 : Nat) : List Value :=
  [.int .i64 n.kind, .int .i64 n.group, .int .i64 n.b.r, .int .i64 n.b.n, .int .i64 n.vote.slot, .int .i64 n.vote.b.r, .int .i64 n.vote.b.n, .slice A1 n.vote.val.length k1, .int .i64 n.entry.slot, .slice A2 n.entry.val.length k2,
    .int .i64 n.right.g, strV n.right.key, .int .i64 n.right.lease, .int .i64 n.right.net, .int .i64 n.client, .int .i64 n.seq]
def NtR (w : World) (ok : Nat → Prop) (p : List Value) (n : Nt) : Prop :=
  ∃ A1 k1 A2 k2, p = ntC n A1 k1 A2 k2 ∧ Bs w ok A1 n.vote.val ∧ Bs w ok A2 n.entry.val
section
variable {w w' : World} {ok ok' : Nat → Prop} {S : List Nat} {es : List Ent} {A : Option Addr} {p : List Value}
theorem Rd.zero {n sz : Nat} {xs : List Value} (h : Rd w A n sz xs) (h0 : n = 0) : Rd w' A n sz xs := by
  have hx : xs = [] := List.eq_nil_of_length_eq_zero (by rw [h.len, h0, Nat.zero_mul])
  subst hx
  exact ⟨h.len, fun _ _ j u hu => by simp at hu, h.nil⟩
theorem Rd.blk {n sz : Nat} {xs : List Value} (h : Rd w A n sz xs) (hn : 0 < n) (hz : 0 < sz) : ∀ a, A = some a → a.block < w.heap.size := by
  intro a ha
  have hl : 0 < xs.length := by rw [h.len]; exact Nat.mul_pos hn hz
  have h1 := World.block_lt_of_cell? w _ (h.cells a ha 0 _ (List.getElem?_eq_getElem hl))
  rwa [Addr.add_zero'] at h1
theorem Rd.move {n sz : Nat} {xs : List Value} (h : Rd w A n sz xs) (hz : 0 < sz) (ha : 0 < n → ∀ p, A = some p → ok p.block) (H : Hp w w' S es) (hk : ∀ x, ok x → x < w.heap.size → x ∉ S ∧ ok' x) : Rd w' A n sz xs ∧ (0 < n → ∀ p, A = some p → ok' p.block) := by
  rcases Nat.eq_zero_or_pos n with h0 | h0
  · exact ⟨h.zero h0, fun h1 => by omega⟩
  · exact ⟨h.to H fun a e => (hk _ (ha h0 a e) (h.blk h0 hz a e)).1, fun _ a e => (hk _ (ha h0 a e) (h.blk h0 hz a e)).2⟩
theorem Bs.to {b : Blk} (h : Bs w ok A b) (H : Hp w w' S es) (hk : ∀ x, ok x → x < w.heap.size → x ∉ S ∧ ok' x) : Bs w' ok' A b := by
  obtain ⟨h1, h2⟩ := h.1.move (by decide) h.2.1 H hk
  exact ⟨h1, h2, h.2.2⟩
theorem Sl.to {X : Type} {R R' : List Value → X → Prop} {sz : Nat} {xs : List X} (h : Sl R sz w ok A xs) (hz : 0 < sz) (H : Hp w w' S es) (hk : ∀ x, ok x → x < w.heap.size → x ∉ S ∧ ok' x) (hR : ∀ p x, R p x → R' p x) : Sl R' sz w' ok' A xs := by
  obtain ⟨ps, hp, hr, ha, h2⟩ := h
  obtain ⟨h3, h4⟩ := hr.move hz ha H hk
  exact ⟨ps, hp, h3, h4, h2.imp hR⟩
theorem VtR.to {x : Vt} (h : VtR w ok p x) (H : Hp w w' S es) (hk : ∀ x, ok x → x < w.heap.size → x ∉ S ∧ ok' x) : VtR w' ok' p x := by
  obtain ⟨A, k, rfl, h⟩ := h
  exact ⟨A, k, rfl, h.to H hk⟩
theorem EnR.to {x : En} (h : EnR w ok p x) (H : Hp w w' S es) (hk : ∀ x, ok x → x < w.heap.size → x ∉ S ∧ ok' x) : EnR w' ok' p x := by
  obtain ⟨A, k, rfl, h⟩ := h
  exact ⟨A, k, rfl, h.to H hk⟩
theorem Sl.toV {xs : List Vt} (h : Sl (VtR w ok) 4 w ok A xs) (H : Hp w w' S es) (hk : ∀ x, ok x → x < w.heap.size → x ∉ S ∧ ok' x) : Sl (VtR w' ok') 4 w' ok' A xs := h.to (by decide) H hk fun _ _ h => h.to H hk
theorem Sl.toE {xs : List En} (h : Sl (EnR w ok) 2 w ok A xs) (H : Hp w w' S es) (hk : ∀ x, ok x → x < w.heap.size → x ∉ S ∧ ok' x) : Sl (EnR w' ok') 2 w' ok' A xs := h.to (by decide) H hk fun _ _ h => h.to H hk
theorem SvR.to {x : Sv} (h : SvR w ok p x) (H : Hp w w' S es) (hk : ∀ x, ok x → x < w.heap.size → x ∉ S ∧ ok' x) : SvR w' ok' p x := by
  obtain ⟨A1, k1, A2, k2, A3, k3, rfl, h1, h2, h3⟩ := h
  exact ⟨A1, k1, A2, k2, A3, k3, rfl, h1.toV H hk, h2.to H hk, h3.toE H hk⟩
theorem Sl.toS {xs : List Sv} (h : Sl (SvR w ok) 6 w ok A xs) (H : Hp w w' S es) (hk : ∀ x, ok x → x < w.heap.size → x ∉ S ∧ ok' x) : Sl (SvR w' ok') 6 w' ok' A xs := h.to (by decide) H hk fun _ _ h => h.to H hk
theorem Sl.toR {xs : List Rt} (h : Sl RtR 4 w ok A xs) (H : Hp w w' S es) (hk : ∀ x, ok x → x < w.heap.size → x ∉ S ∧ ok' x) : Sl RtR 4 w' ok' A xs := h.to (by decide) H hk fun _ _ h => h
theorem Sl.toM {xs : List Mk} (h : Sl MkR 7 w ok A xs) (H : Hp w w' S es) (hk : ∀ x, ok x → x < w.heap.size → x ∉ S ∧ ok' x) : Sl MkR 7 w' ok' A xs := h.to (by decide) H hk fun _ _ h => h
theorem BoR.to {x : Bo} (h : BoR w ok p x) (H : Hp w w' S es) (hk : ∀ x, ok x → x < w.heap.size → x ∉ S ∧ ok' x) : BoR w' ok' p x := by
  obtain ⟨A1, k1, A2, k2, A3, k3, rfl, h1, h2, h3⟩ := h
  exact ⟨A1, k1, A2, k2, A3, k3, rfl, h1.toS H hk, h2.toR H hk, h3.toM H hk⟩
theorem NtR.to {x : Nt} (h : NtR w ok p x) (H : Hp w w' S es) (hk : ∀ x, ok x → x < w.heap.size → x ∉ S ∧ ok' x) : NtR w' ok' p x := by
  obtain ⟨A1, k1, A2, k2, rfl, h1, h2⟩ := h
  exact ⟨A1, k1, A2, k2, rfl, h1.to H hk, h2.to H hk⟩
theorem Sl.toN {xs : List Nt} (h : Sl (NtR w ok) 16 w ok A xs) (H : Hp w w' S es) (hk : ∀ x, ok x → x < w.heap.size → x ∉ S ∧ ok' x) : Sl (NtR w' ok') 16 w' ok' A xs := h.to (by decide) H hk fun _ _ h => h.to H hk
theorem k0 : ∀ x, ok x → x < w.heap.size → x ∉ ([] : List Nat) ∧ ok x := fun _ h _ => ⟨by simp, h⟩
theorem kT : ∀ x, ok x → x < w.heap.size → x ∉ ([] : List Nat) ∧ (fun _ => True) x := fun _ _ _ => ⟨by simp, trivial⟩
theorem VtR.len {x : Vt} (h : VtR w ok p x) : p.length = 4 := by obtain ⟨_, _, rfl, _⟩ := h; rfl
theorem EnR.len {x : En} (h : EnR w ok p x) : p.length = 2 := by obtain ⟨_, _, rfl, _⟩ := h; rfl
theorem SvR.len {x : Sv} (h : SvR w ok p x) : p.length = 6 := by obtain ⟨_, _, _, _, _, _, rfl, _⟩ := h; rfl
theorem NtR.len {x : Nt} (h : NtR w ok p x) : p.length = 16 := by obtain ⟨_, _, _, _, rfl, _⟩ := h; rfl
theorem VtR.ones {x : Vt} (h : VtR w ok p x) : p.all (·.oneCell') = true := by obtain ⟨_, _, rfl, _⟩ := h; rfl
theorem EnR.ones {x : En} (h : EnR w ok p x) : p.all (·.oneCell') = true := by obtain ⟨_, _, rfl, _⟩ := h; rfl
theorem RtR.ones {x : Rt} (h : RtR p x) : p.all (·.oneCell') = true := by rw [h]; rfl
theorem MkR.ones {x : Mk} (h : MkR p x) : p.all (·.oneCell') = true := by rw [h]; rfl
theorem SvR.ones {x : Sv} (h : SvR w ok p x) : p.all (·.oneCell') = true := by obtain ⟨_, _, _, _, _, _, rfl, _⟩ := h; rfl
theorem NtR.ones {x : Nt} (h : NtR w ok p x) : p.all (·.oneCell') = true := by obtain ⟨_, _, _, _, rfl, _⟩ := h; rfl
theorem All2.ones {X : Type} {R : List Value → X → Prop} (hR : ∀ p x, R p x → p.all (·.oneCell') = true) : ∀ {ps : List (List Value)} {xs : List X}, All2 R ps xs → ∀ p ∈ ps, p.all (·.oneCell') = true
  | [], [], _, p, hp => by cases hp
  | q :: ps, x :: xs, h, p, hp => by
    rcases List.mem_cons.1 hp with rfl | hp
    · exact hR _ _ h.1
    · exact All2.ones hR h.2 p hp
theorem Bs.none (w : World) (ok : Nat → Prop) : Bs w ok none [] := ⟨Rd.none_ w 1, (fun h => by cases h), by decide⟩
theorem Sl.none {X : Type} (R : List Value → X → Prop) (sz : Nat) (w : World) (ok : Nat → Prop) : Sl R sz w ok Option.none [] := ⟨[], Pl.nil _, Rd.none_ w sz, (fun h => by cases h), trivial⟩
end

/-! ### What a note does -/
@[reducible] def Bal.lt (a b : Bal) : Prop := a.r < b.r ∨ (a.r = b.r ∧ a.n < b.n)
def Sv.last (s : Sv) : Int := s.index + s.entries.length
def Sv.raise (s : Sv) (b : Bal) : Sv := if s.p.lt b then { s with p := b } else s
def putVt (l : List Vt) (v : Vt) : List Vt := l.filter (fun x => decide (x.slot < v.slot)) ++ v :: l.filter (fun x => decide (v.slot < x.slot))
def behind (l : List Vt) (n : Int) : List Vt := l.filter fun x => decide (n < x.slot)
def imgEn (l : List En) (n : Int) : List En := match l.filter fun x => decide (n < x.slot) with
  | [] => []
  | e :: r => if e.slot = n + 1 then e :: r else []
def Sv.goes (s : Sv) (n : Nt) : Sv :=
  if n.kind = 1 then s.raise n.b
  else if n.kind = 2 then (if n.vote.slot ≤ s.last then s else ({ s with votes := putVt s.votes n.vote } : Sv).raise n.vote.b)
  else if n.kind = 3 then (if n.entry.slot = s.last + 1 then { s with entries := s.entries ++ [n.entry], votes := behind s.votes n.entry.slot } else s)
  else if n.entry.slot ≤ s.index then s else { s with index := n.entry.slot, image := n.entry.val, entries := imgEn s.entries n.entry.slot, votes := behind s.votes n.entry.slot }
def entOk : Int → List En → Bool
  | _, [] => true
  | n, e :: l => decide (e.slot = n + 1 ∧ e.slot ≤ 1099511627776 ∧ e.val.length ≤ 2048) && entOk (n + 1) l
def vtsOk (p : Bal) (first : Int) : Int → List Vt → Bool
  | _, [] => true
  | n, v :: l => decide (n ≤ v.slot ∧ v.slot < first + 16 ∧ 1 ≤ v.b.r ∧ 1 ≤ v.b.n ∧ ¬ p.lt v.b ∧ v.val.length ≤ 2048) && vtsOk p first (v.slot + 1) l
/-- May a member have saved that? -/
def chk (s : Sv) : Bool :=
  decide ((s.p.r = 0 ∧ s.p.n = 0) ∨ (1 ≤ s.p.r ∧ 1 ≤ s.p.n ∧ s.p.n ≤ 5)) && decide (0 ≤ s.index ∧ s.index ≤ 1099511627776 ∧ (s.index = 0 → s.image.length = 0) ∧ s.image.length ≤ 8192) && entOk s.index s.entries &&
    decide (s.index + s.entries.length + 1 ≤ 1099511627776) && vtsOk s.p (s.index + s.entries.length + 1) (s.index + s.entries.length + 1) s.votes
@[reducible] def mayR (r : Rt) : Prop := 1 ≤ r.g ∧ r.g < 8 ∧ 1 ≤ r.key.length ∧ r.key.length ≤ 16 ∧ 1 ≤ r.lease
def ltR (a b : Rt) : Bool := decide (a.g < b.g) || (decide (a.g = b.g) && Op.bytesLess a.key b.key)
def putRt (l : List Rt) (r : Rt) : List Rt := l.filter (fun x => ltR x r) ++ r :: l.filter (fun x => ltR r x)
def putMk (l : List Mk) (m : Mk) : List Mk := l.filter (fun x => decide (x.client < m.client)) ++ m :: l.filter (fun x => decide (m.client < x.client))
def findMk (l : List Mk) (c : Int) : Option Mk := l.find? fun x => decide (x.client = c)
def spend (l : List Mk) (c q : Int) : List Mk :=
  if c < 1 ∨ 8 < c ∨ q < 1 ∨ 4611686018427387904 < q then l
  else match findMk l c with
    | some m => if q ≤ m.seq then l else putMk l ⟨c, q⟩
    | none => putMk l ⟨c, q⟩
def Bo.into (b : Bo) (n : Nt) : Option Bo :=
  if n.kind = 5 then (if mayR n.right then some { b with rights := putRt b.rights n.right, last := spend b.last n.client n.seq } else none)
  else if n.kind < 1 ∨ 4 < n.kind ∨ n.group < 0 ∨ 8 ≤ n.group then none
  else match b.groups[n.group.toNat]? with
    | some s => if chk (s.goes n) then some { b with groups := b.groups.set n.group.toNat (s.goes n) } else none
    | none => none
def Sv.none : Sv := ⟨⟨0, 0⟩, [], 0, [], []⟩
def Bo.empty : Bo := ⟨List.replicate 8 Sv.none, [], []⟩
def repl : Bo → List Nt → Option Bo
  | b, [] => some b
  | b, n :: l => match b.into n with
    | some b' => repl b' l
    | none => none
/-- Rights by rising groups and keys; marks by rising clients. -/
def rtsOk : List Rt → Prop
  | [] => True
  | r :: l => mayR r ∧ (∀ x ∈ l, ltR r x = true) ∧ rtsOk l
def mksOk : Int → List Mk → Prop
  | _, [] => True
  | c, m :: l => c < m.client ∧ m.client ≤ 8 ∧ 1 ≤ m.seq ∧ m.seq ≤ 4611686018427387904 ∧ mksOk m.client l
/-- A book that notes have made, so many at most. -/
structure Good (b : Bo) (N : Nat) : Prop where
  eight : b.groups.length = 8
  chk : ∀ s ∈ b.groups, chk s = true
  rts : rtsOk b.rights
  mks : mksOk 0 b.last
  few : b.rights.length ≤ N
end Go.Proofs.Ytbninklfoogmdaa
