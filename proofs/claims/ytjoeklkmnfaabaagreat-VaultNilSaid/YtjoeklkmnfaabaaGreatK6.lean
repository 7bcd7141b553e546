/-
  Parts of the walk, one behind the other.
-/
import Derived.Test.YtjoeklkmnfaabaaGreatK5
import Derived.WalkKit
import Derived.ProofKit
import Derived.OpenShut
import Derived.Carry
import Derived.SizedLaws
/-
  Notes of their own whose bytes are written to: what stays.
-/
namespace Go.Proofs.YtjoeklkmnfaabaaGreat
open Go Go.RowKit

def Wtb (w : World) (n0 n1 : Nat) (gi g : Option Nat) (m : Nat) : Prop := m ≤ 140737488351232 ∧ (g = none → m = 0) ∧ ∀ k, g = some k → n0 ≤ k ∧ k < n1 ∧ gi ≠ some k ∧ ∃ cs : List Value, w.heap[k]? = some (.cells cs.toArray 5 (0, 0)) ∧ m ≤ cs.length
def NtX (w : World) (n0 n1 : Nat) (gi : Option Nat) (p : List Value) (n : Nt) : Prop := ∃ g1 c1 g2 c2, p = [.int .i64 n.kind, .int .i64 n.group, .int .i64 n.b.r, .int .i64 n.b.n, .int .i64 n.vote.slot, .int .i64 n.vote.b.r, .int .i64 n.vote.b.n, .slice (hd g1) n.vote.val.length c1, .int .i64 n.entry.slot, .slice (hd g2) n.entry.val.length c2, .int .i64 n.right.g, strV n.right.key, .int .i64 n.right.lease, .int .i64 n.right.net, .int .i64 n.client, .int .i64 n.seq] ∧ Wtb w n0 n1 gi g1 n.vote.val.length ∧ Wtb w n0 n1 gi g2 n.entry.val.length
section
variable {w0 w w' : World} {S S' : List Nat} {es es' : List Ent} {n0 n1 m : Nat} {gi g : Option Nat} {b : Blk} {p : List Value} {n : Nt}
/-- What rows are written leaves their lengths. -/
theorem Wtb.step (h : Wtb w n0 n1 gi g m) (H : Hp w w' S es) (hs : n1 ≤ w.heap.size) (hk : ∀ k, n0 ≤ k → k < n1 → gi ≠ some k → k ∈ S → ∃ (i : Nat) (cs : List Value), es[i]? = some (some k, 5, cs) ∧ ∀ cs0 : List Value, w.heap[k]? = some (.cells cs0.toArray 5 (0, 0)) → cs0.length ≤ cs.length) : Wtb w' n0 n1 gi g m := by
  refine ⟨h.1, h.2.1, fun k e => ?_⟩
  obtain ⟨h1, h2, h3, cs, h4, h5⟩ := h.2.2 k e
  refine ⟨h1, h2, h3, ?_⟩
  by_cases hS : k ∈ S
  · obtain ⟨i, cs', h6, h7⟩ := hk k h1 h2 h3 hS
    exact ⟨cs', H.at h6, Nat.le_trans h5 (h7 cs h4)⟩
  · exact ⟨cs, by rw [H.frame k (by omega) hS]; exact h4, h5⟩
theorem NtX.step (h : NtX w n0 n1 gi p n) (H : Hp w w' S es) (hs : n1 ≤ w.heap.size) (hk : ∀ k, n0 ≤ k → k < n1 → gi ≠ some k → k ∈ S → ∃ (i : Nat) (cs : List Value), es[i]? = some (some k, 5, cs) ∧ ∀ cs0 : List Value, w.heap[k]? = some (.cells cs0.toArray 5 (0, 0)) → cs0.length ≤ cs.length) : NtX w' n0 n1 gi p n := by
  obtain ⟨g1, c1, g2, c2, h1, h2, h3⟩ := h
  exact ⟨g1, c1, g2, c2, h1, h2.step H hs hk, h3.step H hs hk⟩
theorem Hp.wide (H : Hp w0 w S es) (h : ∀ k ∈ S, k ∈ S') : Hp w0 w S' es := by
  refine ⟨H.os, H.tape, H.output, H.size, fun k hk hs => H.frame k hk fun h' => hs (h k h'), fun i e he => ?_, H.apart⟩
  have h1 := H.ent i e he
  unfold EntOk at h1 ⊢
  split
  · rename_i hn; rw [hn] at h1; exact h1
  · rename_i k hk
    rw [hk] at h1
    exact ⟨h1.1, h1.2.imp (h k) id⟩
/-- A block that may be written, as a row. -/
theorem Hp.take {k : Nat} {T : TypeId} {cs : List Value} (H : Hp w0 w S es) (hp : w.heap[k]? = some (.cells cs.toArray T (0, 0))) (hn : k ∈ S ∨ w0.heap.size ≤ k) (ha : k ∉ bl es) : Hp w0 w S (es ++ [(some k, T, cs)]) := by
  have hno : ∀ (i : Nat) (e : Ent), es[i]? = some e → e.1 ≠ some k := fun i e he hg => ha (List.mem_filterMap.2 ⟨e, List.mem_of_getElem? he, hg⟩)
  have key : ∀ (i : Nat) (e : Ent), (es ++ [(some k, T, cs)])[i]? = some e → (i < es.length ∧ es[i]? = some e) ∨ (i = es.length ∧ e = (some k, T, cs)) := by
    intro i e he
    rcases Nat.lt_or_ge i es.length with hi | hi
    · rw [List.getElem?_append_left hi] at he
      exact .inl ⟨hi, he⟩
    · rw [List.getElem?_append_right hi] at he
      cases hj : i - es.length with
      | zero =>
        rw [hj] at he
        simp at he
        exact .inr ⟨by omega, he.symm⟩
      | succ n => rw [hj] at he; simp at he
  refine ⟨H.os, H.tape, H.output, H.size, H.frame, fun i e he => ?_, fun i j e f g hi hj hge hgf => ?_⟩
  · rcases key i e he with ⟨_, h⟩ | ⟨_, rfl⟩
    · exact H.ent i e h
    · exact ⟨hp, hn⟩
  · rcases key i e hi with ⟨h1, h2⟩ | ⟨h1, rfl⟩ <;> rcases key j f hj with ⟨h3, h4⟩ | ⟨h3, rfl⟩
    · exact H.apart i j e f g h2 h4 hge hgf
    · cases hgf; exact absurd hge (hno i e h2)
    · cases hge; exact absurd hgf (hno j f h4)
    · omega
/-- The bytes of a note, as a row. -/
theorem Wtb.row (h : Wtb w n0 n1 gi g m) (H : Hp w0 w S es) (hn : ∀ k, n0 ≤ k → k < n1 → gi ≠ some k → (k ∈ S ∨ w0.heap.size ≤ k) ∧ k ∉ bl es) : ∃ cs : List Value, m ≤ cs.length ∧ Hp w0 w S (es ++ [(g, 5, cs)]) ∧ (0 < m → ∃ k, g = some k) := by
  cases g with
  | none => exact ⟨[], by rw [h.2.1 rfl]; exact Nat.zero_le _, H.nil _, fun h0 => by rw [h.2.1 rfl] at h0; omega⟩
  | some k =>
    obtain ⟨h1, h2, h3, cs, h4, h5⟩ := h.2.2 k rfl
    obtain ⟨h6, h7⟩ := hn k h1 h2 h3
    exact ⟨cs, h5, H.take h4 h6 h7, fun _ => ⟨k, rfl⟩⟩
theorem Hp.after {S0 : List Nat} (HB : Hp w0 w S0 es) (H : Hp w w' S es') (h : ∀ k ∈ S, k ∈ S0 ∨ w0.heap.size ≤ k) : Hp w0 w' S0 [] :=
  ⟨H.os.trans HB.os, H.tape.trans HB.tape, H.output.trans HB.output, Nat.le_trans HB.size H.size, fun k hk hs => by
    rw [H.frame k (by have := HB.size; omega) fun hm => by
      rcases h k hm with h1 | h1
      · exact hs h1
      · omega]
    exact HB.frame k hk hs, by simp, by simp⟩
section
variable {wI wB : World} {SS : List Nat} {R : List Ent} {u : Option Nat} {cs0 cs : List Value} {qs : List (List Value)} {l : List Nt}
end
end
theorem Rep.both {l : List Nt} {b c : Bo} {e f : Int} (h : Rep l b e) (h' : Rep l c f) : b = c ∧ e = f := by
  rcases h with ⟨h1, h2, _⟩ | ⟨h1, h2, h3⟩ <;> rcases h' with ⟨h4, h5, _⟩ | ⟨h4, h5, h6⟩
  · rw [h1] at h4; cases h4; exact ⟨rfl, h2.trans h5.symm⟩
  · rw [h1] at h4; cases h4
  · rw [h1] at h4; cases h4
  · exact ⟨h2.trans h5.symm, h3.trans h6.symm⟩
theorem Rep.size {l : List Nt} {b : Bo} {e : Int} (h : Rep l b e) (hn : l.length ≤ 840000000000) : b.groups.length ≤ 1000000000000000000 ∧ b.rights.length ≤ 1000000000000000000 ∧ b.last.length ≤ 1000000000000000000 ∧ ∀ x ∈ b.groups, x.votes.length ≤ 1000000000000000000 ∧ x.entries.length ≤ 1000000000000000000 := by
  rcases h with ⟨_, _, h⟩ | ⟨_, rfl, _⟩
  · have h1 := h.eight
    have h2 := h.few
    have h3 := mks_len h.mks
    exact ⟨by omega, by omega, by omega, h.fews⟩
  · exact ⟨by decide, by decide, by decide, fun x hx => by cases hx⟩
end Go.Proofs.YtjoeklkmnfaabaaGreat
/- Walks of layer 2, printed by wip/gen/codec.py. -/
namespace Go.Proofs.YtjoeklkmnfaabaaGreat
open Go Go.RowKit
set_option linter.unusedVariables false
attribute [local irreducible] Still Ops Does Cd
set_option maxRecDepth 100000 in
set_option maxHeartbeats 4000000 in
theorem vaultNil_v (A : Option Addr) (n c : Nat) (w0 : World) :
    Does Tryz.prog 3 #[.slice A n c] w0 (fun r w' => r = .bool true ∧ Hp w0 w' [] []) := by
  refine does_of Tryz.func3 Tryz.ntmps3 rfl ?_
  refine nR66 ?_
  have H := Hp.refl w0
  refine run_seq ?_
  refine run_region ?_
  refine ops_val (ex_assign rfl) ?_
  refine ops_nil ?_
  refine nR66 ?_
  refine run_seq ?_
  refine run_region ?_
  refine ops_val (ex_assign rfl) ?_
  refine ops_nil ?_
  refine nR66 ?_
  refine run_seq ?_
  refine run_region ?_
  refine ops_call_val (ex_call gf7 rfl) (vopen_nil _) ?_
  intro w1 Hd
  have H1 := H.callN Hd
  refine ops_val (ex_move rfl) ?_
  refine ops_val (ex_extract rfl rfl) ?_
  refine ops_val (ex_extract rfl rfl) ?_
  refine nO66 ?_
  refine ops_val (ex_assign rfl) ?_
  refine ops_val (ex_assign rfl) ?_
  refine ops_nil ?_
  refine nR66 ?_
  refine run_seq ?_
  refine run_region ?_
  refine ops_call (ex_call gf8 rfl) (newD_any 64 _ (by decide) (by decide)) ?_
  rintro _ w2 ⟨gd, gk, rfl, Hd⟩
  have H2 := (H1.call0 Hd).pick [0, 1, 2] (by decide)
  have hO := newOk (n := 64) (by decide) (by decide)
  refine ops_val (ex_move rfl) ?_
  refine ops_val (ex_extract rfl rfl) ?_
  refine ops_val (ex_extract rfl rfl) ?_
  refine nO66 ?_
  refine ops_val (ex_assign rfl) ?_
  refine ops_val (ex_assign rfl) ?_
  refine ops_nil ?_
  refine nR66 ?_
  refine run_seq ?_
  refine run_region ?_
  refine ops_val (ex_move rfl) ?_
  refine ops_call_val (ex_call gf9 rfl) (crash_any gd gk none 0 [] _ _ H2.here hO none [] 0 (Rd.none_ _ 1) (fun h => by cases h) (by decide)) ?_
  intro w3 ⟨gw, cw, sp, hO2, Hd⟩
  have H3 := (H2.callr [0, 1, 2] rfl Hd).pick [3, 4, 5] (by decide)
  refine ops_nil ?_
  refine nR66 ?_
  refine run_seq ?_
  refine run_region ?_
  refine ops_val (ex_move rfl) ?_
  refine ops_call_val (ex_call gf7 rfl) (vopen_down gd gk gw cw sp _ _ H3.here rfl) ?_
  intro w4 Hd
  have H4 := (H3.callr [0, 1, 2] rfl Hd).pick [3, 4, 5] (by decide)
  refine ops_val (ex_move rfl) ?_
  refine ops_val (ex_extract rfl rfl) ?_
  refine nO66 ?_
  refine ops_val (ex_extract rfl rfl) ?_
  refine ops_val (ex_assign rfl) ?_
  refine ops_val (ex_assign rfl) ?_
  refine ops_nil ?_
  refine nR66 ?_
  refine run_seq ?_
  refine run_region ?_
  refine ops_call_val (ex_call gf10 rfl) (awake_v _) ?_
  intro w5 Hd
  have H5 := H4.callN Hd
  refine ops_val (ex_move rfl) ?_
  refine nO66 ?_
  refine ops_yes rfl ?_
  refine ops_val (ex_move rfl) ?_
  refine ops_yes rfl ?_
  refine ops_true (ex_eql_nil_ptr Tryz.underlying23 rfl) (rfl) ?_
  refine ops_val (ex_pick_t rfl rfl) ?_
  refine ops_val (ex_move rfl) ?_
  refine nO66 ?_
  refine ops_yes rfl ?_
  refine ops_val (ex_move rfl) ?_
  refine ops_yes rfl ?_
  refine ops_true (ex_eql rfl rfl) (rfl) ?_
  refine ops_val (ex_pick_t rfl rfl) ?_
  refine ops_val (ex_move rfl) ?_
  refine nO66 ?_
  refine ops_yes rfl ?_
  refine ops_val (ex_move rfl) ?_
  refine ops_yes rfl ?_
  refine ops_true (ex_eql_nil_ptr Tryz.underlying23 rfl) (rfl) ?_
  refine ops_val (ex_pick_t rfl rfl) ?_
  refine ops_val (ex_move rfl) ?_
  refine nO66 ?_
  refine ops_yes rfl ?_
  refine ops_val (ex_move rfl) ?_
  refine ops_yes rfl ?_
  refine ops_true (ex_eql rfl rfl) (rfl) ?_
  refine ops_val (ex_pick_t rfl rfl) ?_
  refine ops_val (ex_move rfl) ?_
  refine nO66 ?_
  refine ops_yes rfl ?_
  refine ops_val (ex_move rfl) ?_
  refine ops_yes rfl ?_
  refine ops_val (ex_move rfl) ?_
  refine nO66 ?_
  refine ops_yes rfl ?_
  refine ops_call_val (ex_call gf11 rfl) (save_nil A n c _) ?_
  intro w6 Hd
  have H6 := H5.callN Hd
  refine ops_yes rfl ?_
  refine ops_true (ex_eql rfl rfl) (rfl) ?_
  refine ops_val (ex_pick_t rfl rfl) ?_
  refine ops_val (ex_move rfl) ?_
  refine nO66 ?_
  refine ops_yes rfl ?_
  refine ops_val (ex_move rfl) ?_
  refine ops_yes rfl ?_
  refine ops_val (ex_build ty35 pl35 rfl rfl) ?_
  refine nO66 ?_
  refine ops_yes rfl ?_
  refine ops_buildSlice Tryz.underlying38 ty35 H6 rfl (by decide) rfl ?_
  intro w7 g7 H7 hg7
  refine ops_yes rfl ?_
  refine ops_call_val (ex_call gf12 rfl) (fold_nil _ _ _ _) ?_
  intro w8 Hd
  have H8 := H7.callN Hd
  refine nO66 ?_
  refine ops_yes rfl ?_
  refine ops_true (ex_eql rfl rfl) (rfl) ?_
  refine ops_val (ex_pick_t rfl rfl) ?_
  refine ops_val (ex_move rfl) ?_
  refine nO66 ?_
  refine ops_yes rfl ?_
  refine ops_val (ex_move rfl) ?_
  refine ops_yes rfl ?_
  refine ops_call (ex_call gf14 rfl) (book_nil _) ?_
  rintro _ w9 ⟨_, rfl, ⟨E1, ex1, E2, ex2, E3, ex3, rfl, hE1, hE2, hE3⟩, HdE⟩
  have H9 := H8.callN HdE
  refine nO66 ?_
  refine ops_yes rfl ?_
  refine ops_call (ex_call gf15 rfl) (empty_r _) ?_
  rintro _ w10 ⟨_, rfl, ⟨F1, fx1, F2, fx2, F3, fx3, rfl, hF1, hF2, hF3⟩, HdF⟩
  have H10 := H9.callN HdF
  refine ops_yes rfl ?_
  refine ops_call_val (ex_call gf13 rfl) (same_bo Bo.empty E1 ex1 E2 ex2 E3 ex3 F1 fx1 F2 fx2 F3 fx3 _ _ _ (hE1.toS HdF k0) (hE2.toR HdF k0) (hE3.toM HdF k0) hF1 hF2 hF3 (Rep.size (l := []) (.inl ⟨rfl, rfl, Good.empty⟩) (by decide)).1 (Rep.size (l := []) (.inl ⟨rfl, rfl, Good.empty⟩) (by decide)).2.1 (Rep.size (l := []) (.inl ⟨rfl, rfl, Good.empty⟩) (by decide)).2.2.1 (Rep.size (l := []) (.inl ⟨rfl, rfl, Good.empty⟩) (by decide)).2.2.2) ?_
  intro w11 Hd
  have H11 := H10.callN Hd
  refine ops_val (ex_pick_t rfl rfl) ?_
  refine ops_val (ex_move rfl) ?_
  refine nO66 ?_
  refine ops_yes rfl ?_
  refine ops_val (ex_move rfl) ?_
  refine ops_yes rfl ?_
  refine ops_call_val (ex_call gf16 rfl) (vlen_nil _) ?_
  intro w12 Hd
  have H12 := H11.callN Hd
  refine nO66 ?_
  refine ops_yes rfl ?_
  refine ops_true (ex_eql rfl rfl) (rfl) ?_
  refine ops_val (ex_pick_t rfl rfl) ?_
  refine ops_val (ex_assign rfl) ?_
  refine ops_nil ?_
  refine nR66 ?_
  refine run_ret ?_
  refine fin_ret1 rfl rfl ?_
  exact ⟨rfl, H12.noRows⟩
end Go.Proofs.YtjoeklkmnfaabaaGreat
/-
  What a row's step needs of arguments that came in: a slice of bytes, with its size.
-/
namespace Go.Proofs.YtjoeklkmnfaabaaGreat
open Go Go.ChangeShapes Go.WideShapes Go.ChangeAt Go.RowKit
section
variable {H : Type} {enc : TypeId × Value → H} {P : Program} {w : World} {base : Nat} {spare : Nat → Bool} {held : Bool}
end
end Go.Proofs.YtjoeklkmnfaabaaGreat
