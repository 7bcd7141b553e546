/-
  Notes of their own: whose values lie in blocks made anew, that may be written.
-/
import Derived.Test.YtbninklfoogmdaaVz
namespace Go.Proofs.Ytbninklfoogmdaa
open Go Go.RowKit

def Ownd (w : World) (n0 : Nat) (gi g : Option Nat) (b : Blk) : Prop := b.length ≤ 140737488351232 ∧ (g = none → b = []) ∧ ∀ k, g = some k → n0 ≤ k ∧ gi ≠ some k ∧ ∃ s, w.heap[k]? = some (.cells (u8s b ++ s).toArray 5 (0, 0))
section
variable {w0 w w' : World} {S : List Nat} {es : List Ent} {n0 : Nat} {gi gi' g : Option Nat} {b : Blk}
theorem Ownd.row {i j : Nat} {s cs : List Value} {T : TypeId} (H : Hp w0 w S es) (he : es[i]? = some (g, 5, u8s b ++ s)) (hj : es[j]? = some (gi, T, cs)) (hij : i ≠ j) (hS : ∀ k ∈ S, n0 ≤ k) (h0 : n0 ≤ w0.heap.size) (hb : b.length ≤ 140737488351232) : Ownd w n0 gi g b := by
  refine ⟨hb, fun e => ?_, fun k e => ?_⟩
  · subst e
    have := H.none_ he
    have h2 : (u8s b).length = 0 := by rw [(List.append_eq_nil_iff.1 this).1]; rfl
    rw [u8s_length] at h2
    exact List.eq_nil_of_length_eq_zero h2
  · subst e
    refine ⟨?_, fun e => ?_, s, H.at he⟩
    · rcases H.place he with h | h
      · exact hS k h
      · omega
    · subst e
      exact H.ne he hj hij rfl
theorem Ownd.to (h : Ownd w n0 gi g b) (H : Hp w w' S es) (hk : ∀ k, n0 ≤ k → gi ≠ some k → k < w.heap.size → k ∉ S ∧ gi' ≠ some k) : Ownd w' n0 gi' g b := by
  refine ⟨h.1, h.2.1, fun k e => ?_⟩
  obtain ⟨h1, h2, s, h3⟩ := h.2.2 k e
  have hl : k < w.heap.size := (Array.getElem?_eq_some_iff.1 h3).1
  obtain ⟨h4, h5⟩ := hk k h1 h2 hl
  exact ⟨h1, h5, s, by rw [H.frame k hl h4]; exact h3⟩
theorem Ownd.bs (h : Ownd w n0 gi g b) : Bs w (fun x => n0 ≤ x ∧ gi ≠ some x) (hd g) b := by
  cases g with
  | none => rw [h.2.1 rfl]; exact Bs.none _ _
  | some k =>
    obtain ⟨h1, h2, s, h3⟩ := h.2.2 k rfl
    refine ⟨⟨u8s_length1 b, fun a ha j u hu => ?_, fun e => (by cases e)⟩, fun _ p hp => ?_, h.1⟩
    · cases ha
      have hj := (List.getElem?_eq_some_iff.1 hu).1
      show w.cell? ((⟨k, 0, none⟩ : Addr).add j) = some u
      rw [addn, Nat.zero_add]
      simp [World.cell?, h3, hu, List.getElem?_append_left hj]
    · cases hp
      exact ⟨h1, h2⟩
end
def NtW (w : World) (n0 : Nat) (gi : Option Nat) (p : List Value) (n : Nt) : Prop := ∃ g1 c1 g2 c2, p = [.int .i64 n.kind, .int .i64 n.group, .int .i64 n.b.r, .int .i64 n.b.n, .int .i64 n.vote.slot, .int .i64 n.vote.b.r, .int .i64 n.vote.b.n, .slice (hd g1) n.vote.val.length c1, .int .i64 n.entry.slot, .slice (hd g2) n.entry.val.length c2, .int .i64 n.right.g, strV n.right.key, .int .i64 n.right.lease, .int .i64 n.right.net, .int .i64 n.client, .int .i64 n.seq] ∧ Ownd w n0 gi g1 n.vote.val ∧ Ownd w n0 gi g2 n.entry.val
section
variable {w0 w w' : World} {S : List Nat} {es : List Ent} {n0 : Nat} {gi gi' g : Option Nat} {p : List Value} {n : Nt}
theorem NtW.to (h : NtW w n0 gi p n) (H : Hp w w' S es) (hk : ∀ k, n0 ≤ k → gi ≠ some k → k < w.heap.size → k ∉ S ∧ gi' ≠ some k) : NtW w' n0 gi' p n := by
  obtain ⟨g1, c1, g2, c2, h1, h2, h3⟩ := h
  exact ⟨g1, c1, g2, c2, h1, h2.to H hk, h3.to H hk⟩
theorem NtW.nt (h : NtW w n0 gi p n) : NtR w (fun x => n0 ≤ x ∧ gi ≠ some x) p n := by
  obtain ⟨g1, c1, g2, c2, h1, h2, h3⟩ := h
  exact ⟨_, c1, _, c2, h1, h2.bs, h3.bs⟩
end
end Go.Proofs.Ytbninklfoogmdaa
