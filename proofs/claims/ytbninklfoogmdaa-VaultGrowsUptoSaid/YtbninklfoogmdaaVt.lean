/-
  Plain laws: what a note does, kind by kind.
-/
import Derived.Test.YtbninklfoogmdaaVs
namespace Go.Proofs.Ytbninklfoogmdaa
open Go Go.RowKit

theorem goes1 {s : Sv} {n : Nt} (h : n.kind = 1) : s.goes n = s.raise n.b := by unfold Sv.goes; rw [if_pos h]
theorem goes2 {s : Sv} {n : Nt} (h : n.kind = 2) : s.goes n = if n.vote.slot ≤ s.last then s else ({ s with votes := putVt s.votes n.vote } : Sv).raise n.vote.b := by unfold Sv.goes; rw [if_neg (by omega), if_pos h]
theorem goes3 {s : Sv} {n : Nt} (h : n.kind = 3) : s.goes n = if n.entry.slot = s.last + 1 then { s with entries := s.entries ++ [n.entry], votes := behind s.votes n.entry.slot } else s := by unfold Sv.goes; rw [if_neg (by omega), if_neg (by omega), if_pos h]
theorem goes4 {s : Sv} {n : Nt} (h : n.kind = 4) : s.goes n = if n.entry.slot ≤ s.index then s else { s with index := n.entry.slot, image := n.entry.val, entries := imgEn s.entries n.entry.slot, votes := behind s.votes n.entry.slot } := by unfold Sv.goes; rw [if_neg (by omega), if_neg (by omega), if_neg (by omega)]
theorem putVt_len (l : List Vt) (v : Vt) : (putVt l v).length ≤ l.length + 1 := by
  have key : ∀ l : List Vt, (l.filter fun x => decide (x.slot < v.slot)).length + (l.filter fun x => decide (v.slot < x.slot)).length ≤ l.length := by
    intro l
    induction l with
    | nil => simp
    | cons a l ih =>
      rw [List.filter_cons, List.filter_cons]
      by_cases h1 : a.slot < v.slot <;> by_cases h2 : v.slot < a.slot <;> simp [h1, h2] <;> omega
  unfold putVt
  rw [List.length_append, List.length_cons]
  have := key l
  omega
theorem raise_same (s : Sv) (b : Bal) : (s.raise b).votes = s.votes ∧ (s.raise b).entries = s.entries := by rw [raise_eq]; exact ⟨rfl, rfl⟩
theorem imgEn_len (l : List En) (n : Int) : (imgEn l n).length ≤ l.length := by
  have h := List.length_filter_le (fun x : En => decide (n < x.slot)) l
  unfold imgEn
  split
  · simp
  · rename_i e r heq
    rw [heq] at h
    split
    · exact h
    · simp
theorem goes_len (s : Sv) (n : Nt) : (s.goes n).votes.length ≤ s.votes.length + 1 ∧ (s.goes n).entries.length ≤ s.entries.length + 1 := by
  have hb : (behind s.votes n.entry.slot).length ≤ s.votes.length := List.length_filter_le _ _
  have hp := putVt_len s.votes n.vote
  have hi := imgEn_len s.entries n.entry.slot
  unfold Sv.goes
  split
  · obtain ⟨h1, h2⟩ := raise_same s n.b
    rw [h1, h2]; omega
  · split
    · split
      · omega
      · obtain ⟨h1, h2⟩ := raise_same ({ s with votes := putVt s.votes n.vote } : Sv) n.vote.b
        rw [h1, h2]; exact ⟨hp, by show s.entries.length ≤ _; omega⟩
    · split
      · split
        · simp only [List.length_append, List.length_singleton]; omega
        · omega
      · split
        · omega
        · exact ⟨by show (behind s.votes n.entry.slot).length ≤ _; omega, by show (imgEn s.entries n.entry.slot).length ≤ _; omega⟩
theorem into_bad {b : Bo} {n : Nt} (h5 : n.kind ≠ 5) (h : n.kind < 1 ∨ 4 < n.kind ∨ n.group < 0 ∨ 8 ≤ n.group) : b.into n = none := by unfold Bo.into; rw [if_neg h5, if_pos h]
theorem into_no {b : Bo} {n : Nt} {s : Sv} (h5 : n.kind ≠ 5) (hs : b.groups[n.group.toNat]? = some s) (hc : chk (s.goes n) = false) : b.into n = none := by
  unfold Bo.into
  rw [if_neg h5, hs]
  split
  · rfl
  · simp [hc]
theorem into_yes {b : Bo} {n : Nt} {s : Sv} (h5 : n.kind ≠ 5) (h : ¬ (n.kind < 1 ∨ 4 < n.kind ∨ n.group < 0 ∨ 8 ≤ n.group)) (hs : b.groups[n.group.toNat]? = some s) (hc : chk (s.goes n) = true) : b.into n = some { b with groups := b.groups.set n.group.toNat (s.goes n) } := by
  unfold Bo.into
  rw [if_neg h5, if_neg h, hs]
  simp [hc]
theorem into_right {b : Bo} {n : Nt} (h5 : n.kind = 5) (h : mayR n.right) : b.into n = some { b with rights := putRt b.rights n.right, last := spend b.last n.client n.seq } := by unfold Bo.into; rw [if_pos h5, if_pos h]
theorem into_wrong {b : Bo} {n : Nt} (h5 : n.kind = 5) (h : ¬ mayR n.right) : b.into n = none := by unfold Bo.into; rw [if_pos h5, if_neg h]
theorem vts_few {s : Sv} (h : ChkE s) : s.votes.length ≤ 16 := by
  have := vts_len h.v (by omega)
  omega
theorem ents_few {s : Sv} (h : ChkE s) : s.entries.length ≤ 1099511627776 := by
  have h1 := h.n
  have h2 := h.i.1
  omega
theorem repl_snoc {b : Bo} : ∀ {l : List Nt} {n : Nt}, repl b (l ++ [n]) = (repl b l).bind fun b' => b'.into n
  | [], n => by
    show (match b.into n with | some b' => repl b' [] | none => none) = b.into n
    cases b.into n <;> rfl
  | m :: l, n => by
    show (match b.into m with | some b' => repl b' (l ++ [n]) | none => none) = (match b.into m with | some b' => repl b' l | none => none).bind fun b' => b'.into n
    cases h : b.into m with
    | none => rfl
    | some b' => exact repl_snoc (b := b') (l := l)
theorem repl_take {b b' : Bo} {l : List Nt} {n : Nt} {i : Nat} (h : repl b (l.take i) = some b') (hn : l[i]? = some n) : repl b (l.take (i + 1)) = b'.into n := by
  rw [take_snoc hn, repl_snoc, h]; rfl
theorem repl_none {b : Bo} {l : List Nt} {i : Nat} (h : repl b (l.take i) = none) : repl b l = none := by
  rw [← List.take_append_drop i l]
  generalize l.take i = x at h
  generalize l.drop i = y
  induction x generalizing b with
  | nil => cases h
  | cons m x ih =>
    show (match b.into m with | some b' => repl b' (x ++ y) | none => none) = none
    change (match b.into m with | some b' => repl b' x | none => none) = none at h
    cases hm : b.into m with
    | none => rfl
    | some b' => rw [hm] at h; exact ih h
/-- No book at all; what Replay answers. -/
def Bo.zero : Bo := ⟨[], [], []⟩
def Rep (l : List Nt) (b : Bo) (e : Int) : Prop := (repl Bo.empty l = some b ∧ e = 0 ∧ Good b l.length) ∨ (repl Bo.empty l = none ∧ b = Bo.zero ∧ e = 21)
theorem BoR.zero (w : World) (ok : Nat → Prop) : BoR w ok [.slice none 0 0, .slice none 0 0, .slice none 0 0] Bo.zero := ⟨none, 0, none, 0, none, 0, rfl, Sl.none _ _ _ _, Sl.none _ _ _ _, Sl.none _ _ _ _⟩
theorem repl_prefix {b b' : Bo} {l : List Nt} (i : Nat) (h : repl b l = some b') : ∃ c, repl b (l.take i) = some c := by
  cases hc : repl b (l.take i) with
  | some c => exact ⟨c, rfl⟩
  | none => rw [repl_none hc] at h; cases h
theorem Good.fews {b : Bo} {N : Nat} (h : Good b N) : ∀ x ∈ b.groups, x.votes.length ≤ 1000000000000000000 ∧ x.entries.length ≤ 1000000000000000000 := fun x hx => by
  have hc := (chk_iff x).1 (h.chk x hx)
  have h1 := vts_few hc
  have h2 := ents_few hc
  exact ⟨by omega, by omega⟩
end Go.Proofs.Ytbninklfoogmdaa
