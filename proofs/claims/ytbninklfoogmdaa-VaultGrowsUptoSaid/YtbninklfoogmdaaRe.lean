/-
  Notes of their own whose bytes are written to: what stays.
-/
import Derived.Test.YtbninklfoogmdaaOwn
import Derived.Test.YtbninklfoogmdaaVw
namespace Go.Proofs.Ytbninklfoogmdaa
open Go Go.RowKit

def Wtb (w : World) (n0 n1 : Nat) (gi g : Option Nat) (m : Nat) : Prop := m ≤ 140737488351232 ∧ (g = none → m = 0) ∧ ∀ k, g = some k → n0 ≤ k ∧ k < n1 ∧ gi ≠ some k ∧ ∃ cs : List Value, w.heap[k]? = some (.cells cs.toArray 5 (0, 0)) ∧ m ≤ cs.length
def NtX (w : World) (n0 n1 : Nat) (gi : Option Nat) (p : List Value) (n : Nt) : Prop := ∃ g1 c1 g2 c2, p = [.int .i64 n.kind, .int .i64 n.group, .int .i64 n.b.r, .int .i64 n.b.n, .int .i64 n.vote.slot, .int .i64 n.vote.b.r, .int .i64 n.vote.b.n, .slice (hd g1) n.vote.val.length c1, .int .i64 n.entry.slot, .slice (hd g2) n.entry.val.length c2, .int .i64 n.right.g, strV n.right.key, .int .i64 n.right.lease, .int .i64 n.right.net, .int .i64 n.client, .int .i64 n.seq] ∧ Wtb w n0 n1 gi g1 n.vote.val.length ∧ Wtb w n0 n1 gi g2 n.entry.val.length
section
variable {w0 w w' : World} {S S' : List Nat} {es es' : List Ent} {n0 n1 m : Nat} {gi g : Option Nat} {b : Blk} {p : List Value} {n : Nt}
theorem Ownd.wtb (h : Ownd w n0 gi g b) : Wtb w n0 w.heap.size gi g b.length := by
  refine ⟨h.1, fun e => by rw [h.2.1 e]; rfl, fun k e => ?_⟩
  obtain ⟨h1, h2, s, h3⟩ := h.2.2 k e
  exact ⟨h1, (Array.getElem?_eq_some_iff.1 h3).1, h2, _, h3, by rw [List.length_append, u8s_length]; omega⟩
theorem NtW.ntx (h : NtW w n0 gi p n) : NtX w n0 w.heap.size gi p n := by
  obtain ⟨g1, c1, g2, c2, h1, h2, h3⟩ := h
  exact ⟨g1, c1, g2, c2, h1, h2.wtb, h3.wtb⟩
/-- What rows are written leaves their lengths. -/
theorem Wtb.step (h : Wtb w n0 n1 gi g m) (H : Hp w w' S es) (hs : n1 ≤ w.heap.size) (hk : ∀ k, n0 ≤ k → k < n1 → gi ≠ some k → k ∈ S → ∃ (i : Nat) (cs : List Value), es[i]? = some (some k, 5, cs) ∧ ∀ cs0 : List Value, w.heap[k]? = some (.cells cs0.toArray 5 (0, 0)) → cs0.length ≤ cs.length) : Wtb w' n0 n1 gi g m := by
  refine ⟨h.1, h.2.1, fun k e => ?_⟩
  obtain ⟨h1, h2, h3, cs, h4, h5⟩ := h.2.2 k e
  refine ⟨h1, h2, h3, ?_⟩
  by_cases hS : k ∈ S
  · obtain ⟨i, cs', h6, h7⟩ := hk k h1 h2 h3 hS
    exact ⟨cs', H.at h6, Nat.le_trans h5 (h7 cs h4)⟩
  · exact ⟨cs, by rw [H.frame k (by omega) hS]; exact h4, h5⟩
theorem NtX.step (h : NtX w n0 n1 gi p n) (H : Hp w w' S es) (hs : n1 ≤ w.heap.size) (hk : ∀ k, n0 ≤ k → k < n1 → gi ≠ some k → k ∈ S → ∃ (i : Nat) (cs : List Value), es[i]? = some (some k, 5, cs) ∧ ∀ cs0 : List Value, w.heap[k]? = some (.cells cs0.toArray 5 (0, 0)) → cs0.length ≤ cs.length) : NtX w' n0 n1 gi p n := by
  obtain ⟨g1, c1, g2, c2, h1, h2, h3⟩ := h
  exact ⟨g1, c1, g2, c2, h1, h2.step H hs hk, h3.step H hs hk⟩
theorem Hp.wide (H : Hp w0 w S es) (h : ∀ k ∈ S, k ∈ S') : Hp w0 w S' es := by
  refine ⟨H.os, H.tape, H.output, H.size, fun k hk hs => H.frame k hk fun h' => hs (h k h'), fun i e he => ?_, H.apart⟩
  have h1 := H.ent i e he
  unfold EntOk at h1 ⊢
  split
  · rename_i hn; rw [hn] at h1; exact h1
  · rename_i k hk
    rw [hk] at h1
    exact ⟨h1.1, h1.2.imp (h k) id⟩
/-- A block that may be written, as a row. -/
theorem Hp.take {k : Nat} {T : TypeId} {cs : List Value} (H : Hp w0 w S es) (hp : w.heap[k]? = some (.cells cs.toArray T (0, 0))) (hn : k ∈ S ∨ w0.heap.size ≤ k) (ha : k ∉ bl es) : Hp w0 w S (es ++ [(some k, T, cs)]) := by
  have hno : ∀ (i : Nat) (e : Ent), es[i]? = some e → e.1 ≠ some k := fun i e he hg => ha (List.mem_filterMap.2 ⟨e, List.mem_of_getElem? he, hg⟩)
  have key : ∀ (i : Nat) (e : Ent), (es ++ [(some k, T, cs)])[i]? = some e → (i < es.length ∧ es[i]? = some e) ∨ (i = es.length ∧ e = (some k, T, cs)) := by
    intro i e he
    rcases Nat.lt_or_ge i es.length with hi | hi
    · rw [List.getElem?_append_left hi] at he
      exact .inl ⟨hi, he⟩
    · rw [List.getElem?_append_right hi] at he
      cases hj : i - es.length with
      | zero =>
        rw [hj] at he
        simp at he
        exact .inr ⟨by omega, he.symm⟩
      | succ n => rw [hj] at he; simp at he
  refine ⟨H.os, H.tape, H.output, H.size, H.frame, fun i e he => ?_, fun i j e f g hi hj hge hgf => ?_⟩
  · rcases key i e he with ⟨_, h⟩ | ⟨_, rfl⟩
    · exact H.ent i e h
    · exact ⟨hp, hn⟩
  · rcases key i e hi with ⟨h1, h2⟩ | ⟨h1, rfl⟩ <;> rcases key j f hj with ⟨h3, h4⟩ | ⟨h3, rfl⟩
    · exact H.apart i j e f g h2 h4 hge hgf
    · cases hgf; exact absurd hge (hno i e h2)
    · cases hge; exact absurd hgf (hno j f h4)
    · omega
/-- The bytes of a note, as a row. -/
theorem Wtb.row (h : Wtb w n0 n1 gi g m) (H : Hp w0 w S es) (hn : ∀ k, n0 ≤ k → k < n1 → gi ≠ some k → (k ∈ S ∨ w0.heap.size ≤ k) ∧ k ∉ bl es) : ∃ cs : List Value, m ≤ cs.length ∧ Hp w0 w S (es ++ [(g, 5, cs)]) ∧ (0 < m → ∃ k, g = some k) := by
  cases g with
  | none => exact ⟨[], by rw [h.2.1 rfl]; exact Nat.zero_le _, H.nil _, fun h0 => by rw [h.2.1 rfl] at h0; omega⟩
  | some k =>
    obtain ⟨h1, h2, h3, cs, h4, h5⟩ := h.2.2 k rfl
    obtain ⟨h6, h7⟩ := hn k h1 h2 h3
    exact ⟨cs, h5, H.take h4 h6 h7, fun _ => ⟨k, rfl⟩⟩
theorem copy_sl {i : Nat} {gc : Option Nat} {qs : List (List Value)} {sp : List Value} {cap : Nat} {l : List Nt} (H : Hp w0 w S es) (he : es[i]? = some (gc, 48, qs.flatten ++ sp)) (hG : Gw 16 gc cap qs sp) (hA : All2 (NtW w n0 gc) qs l) : Sl (NtR w (fun _ => True)) 16 w (fun _ => True) (hd gc) l := by
  refine ⟨qs, hG.2.2.2, ?_, fun _ _ _ => trivial, hA.imp fun p x h => NtR.to h.nt (Hp.refl w) kT⟩
  exact H.rd he (by rw [hG.2.2.2.len, hA.len]) (by decide)
theorem Hp.after {S0 : List Nat} (HB : Hp w0 w S0 es) (H : Hp w w' S es') (h : ∀ k ∈ S, k ∈ S0 ∨ w0.heap.size ≤ k) : Hp w0 w' S0 [] :=
  ⟨H.os.trans HB.os, H.tape.trans HB.tape, H.output.trans HB.output, Nat.le_trans HB.size H.size, fun k hk hs => by
    rw [H.frame k (by have := HB.size; omega) fun hm => by
      rcases h k hm with h1 | h1
      · exact hs h1
      · omega]
    exact HB.frame k hk hs, by simp, by simp⟩
theorem bl_one {T : TypeId} {cs : List Value} {k : Nat} (h : k ∈ bl [((g, T, cs) : Ent)]) : g = some k := by
  obtain ⟨e, he, hg⟩ := List.mem_filterMap.1 h
  rw [List.mem_singleton.1 he] at hg; exact hg
theorem bl2 {e : Ent} {T : TypeId} {cs : List Value} {q k : Nat} (h : k ∈ bl [e, (some q, T, cs)]) : k ∈ bl [e] ∨ k = q := by
  obtain ⟨x, hx, hg⟩ := List.mem_filterMap.1 h
  rcases List.mem_cons.1 hx with rfl | hx
  · exact .inl (List.mem_filterMap.2 ⟨_, List.mem_singleton.2 rfl, hg⟩)
  · rw [List.mem_singleton.1 hx] at hg; cases hg; exact .inr rfl
theorem bl3 {e : Ent} {T U : TypeId} {cs us : List Value} {q r k : Nat} (h : k ∈ bl [e, (some q, T, cs), (some r, U, us)]) : k ∈ bl [e] ∨ k = q ∨ k = r := by
  obtain ⟨x, hx, hg⟩ := List.mem_filterMap.1 h
  rcases List.mem_cons.1 hx with rfl | hx
  · exact .inl (List.mem_filterMap.2 ⟨_, List.mem_singleton.2 rfl, hg⟩)
  · rcases List.mem_cons.1 hx with rfl | hx
    · cases hg; exact .inr (.inl rfl)
    · rw [List.mem_singleton.1 hx] at hg; cases hg; exact .inr (.inr rfl)
theorem bl_new (H : Hp w0 w [] es) {k : Nat} (h : k ∈ bl es) : w0.heap.size ≤ k := by
  obtain ⟨⟨g, T, cs⟩, he, hg⟩ := List.mem_filterMap.1 h
  obtain ⟨i, hi⟩ := List.getElem?_of_mem he
  simp only at hg
  subst hg
  rcases H.place hi with h | h
  · cases h
  · exact h
section
variable {wI wB : World} {SS : List Nat} {R : List Ent} {u : Option Nat} {cs0 cs : List Value} {qs : List (List Value)} {l : List Nt}
theorem wr_hk (H : Hp wI w (bl (R ++ [(u, 5, cs0)])) (R ++ [(u, 5, cs)])) (H0 : Hp wB wI SS (R ++ [(u, 5, cs0)])) (hl : cs.length = cs0.length) (hR : ∀ k, n0 ≤ k → k < n1 → gi ≠ some k → k ∉ bl R) :
    ∀ k, n0 ≤ k → k < n1 → gi ≠ some k → k ∈ bl (R ++ [(u, 5, cs0)]) → ∃ (i : Nat) (cs' : List Value), (R ++ [(u, 5, cs)])[i]? = some (some k, 5, cs') ∧ ∀ cs1 : List Value, wI.heap[k]? = some (.cells cs1.toArray 5 (0, 0)) → cs1.length ≤ cs'.length := by
  intro k h1 h2 h3 h4
  obtain ⟨x, hx, hg⟩ := List.mem_filterMap.1 h4
  rcases List.mem_append.1 hx with hx | hx
  · exact absurd (List.mem_filterMap.2 ⟨x, hx, hg⟩) (hR k h1 h2 h3)
  · rw [List.mem_singleton.1 hx] at hg
    simp only at hg
    subst hg
    refine ⟨R.length, cs, by simp, fun cs1 h5 => ?_⟩
    have h6 := H0.at (i := R.length) (g := k) (T := 5) (cs := cs0) (by simp)
    rw [h6] at h5
    simp only [Option.some.injEq, Obj.cells.injEq] at h5
    have h7 := congrArg Array.size h5.1
    simp at h7
    omega
theorem ntx_next (hA : All2 (NtX wI n0 n1 gi) qs l) (H : Hp wI w (bl (R ++ [(u, 5, cs0)])) (R ++ [(u, 5, cs)])) (H0 : Hp wB wI SS (R ++ [(u, 5, cs0)])) (hl : cs.length = cs0.length) (hs : n1 ≤ wI.heap.size) (hR : ∀ k, n0 ≤ k → k < n1 → gi ≠ some k → k ∉ bl R) : All2 (NtX w n0 n1 gi) qs l :=
  hA.imp fun _ _ h => h.step H hs (wr_hk H H0 hl hR)
theorem wtb_next (hA : Wtb wI n0 n1 gi g m) (H : Hp wI w (bl (R ++ [(u, 5, cs0)])) (R ++ [(u, 5, cs)])) (H0 : Hp wB wI SS (R ++ [(u, 5, cs0)])) (hl : cs.length = cs0.length) (hs : n1 ≤ wI.heap.size) (hR : ∀ k, n0 ≤ k → k < n1 → gi ≠ some k → k ∉ bl R) : Wtb w n0 n1 gi g m :=
  hA.step H hs (wr_hk H H0 hl hR)
end
end
theorem Rep.both {l : List Nt} {b c : Bo} {e f : Int} (h : Rep l b e) (h' : Rep l c f) : b = c ∧ e = f := by
  rcases h with ⟨h1, h2, _⟩ | ⟨h1, h2, h3⟩ <;> rcases h' with ⟨h4, h5, _⟩ | ⟨h4, h5, h6⟩
  · rw [h1] at h4; cases h4; exact ⟨rfl, h2.trans h5.symm⟩
  · rw [h1] at h4; cases h4
  · rw [h1] at h4; cases h4
  · exact ⟨h2.trans h5.symm, h3.trans h6.symm⟩
theorem Rep.size {l : List Nt} {b : Bo} {e : Int} (h : Rep l b e) (hn : l.length ≤ 840000000000) : b.groups.length ≤ 1000000000000000000 ∧ b.rights.length ≤ 1000000000000000000 ∧ b.last.length ≤ 1000000000000000000 ∧ ∀ x ∈ b.groups, x.votes.length ≤ 1000000000000000000 ∧ x.entries.length ≤ 1000000000000000000 := by
  rcases h with ⟨_, _, h⟩ | ⟨_, rfl, _⟩
  · have h1 := h.eight
    have h2 := h.few
    have h3 := mks_len h.mks
    exact ⟨by omega, by omega, by omega, h.fews⟩
  · exact ⟨by decide, by decide, by decide, fun x hx => by cases hx⟩
def ups (n0 n1 : Nat) : List Nat := (List.range (n1 - n0)).map (· + n0)
theorem mem_ups {n0 n1 k : Nat} : k ∈ ups n0 n1 ↔ n0 ≤ k ∧ k < n1 := by
  unfold ups
  rw [List.mem_map]
  constructor
  · rintro ⟨a, h1, rfl⟩
    have := List.mem_range.1 h1
    omega
  · intro h
    exact ⟨k - n0, List.mem_range.2 (by omega), by omega⟩
end Go.Proofs.Ytbninklfoogmdaa
