/-
  Notes that come behind take back nothing.
-/
import Derived.Test.YtbninklfoogmdaaVz
namespace Go.Proofs.Ytbninklfoogmdaa
open Go Go.RowKit

structure Ge (x y : Sv) : Prop where
  p : ¬ y.p.lt x.p
  i : x.index ≤ y.index
  l : x.last ≤ y.last
  v : ∀ v ∈ x.votes, v.slot ≤ y.last ∨ ∃ u ∈ y.votes, u.slot = v.slot
theorem Ge.refl (x : Sv) : Ge x x := ⟨fun h => by rcases h with h | h <;> omega, Int.le_refl _, Int.le_refl _, fun v hv => .inr ⟨v, hv, rfl⟩⟩
theorem ent_filter : ∀ {l : List En} {m n : Int}, entOk m l = true → m ≤ n → l.filter (fun x => decide (n < x.slot)) = l.drop (n - m).toNat
  | [], m, n, _, _ => by simp
  | e :: l, m, n, h, hn => by
    simp only [entOk, Bool.and_eq_true, decide_eq_true_eq] at h
    by_cases hmn : m = n
    · subst hmn
      rw [Int.sub_self]
      refine List.filter_eq_self.2 fun x hx => decide_eq_true ?_
      obtain ⟨i, hi⟩ := List.getElem?_of_mem hx
      have := (ents_slot (l := e :: l) (n := m) (by simp only [entOk, Bool.and_eq_true, decide_eq_true_eq]; exact h) i x hi).1
      omega
    · rw [List.filter_cons, decide_eq_false (by omega), ent_filter h.2 (by omega), show (n - m).toNat = (n - (m + 1)).toNat + 1 by omega]
      rfl
theorem imgEn_last {l : List En} {m n : Int} (h : entOk m l = true) (hn : m ≤ n) : m + l.length ≤ n + (imgEn l n).length := by
  have hf := ent_filter h hn
  have hl : (l.drop (n - m).toNat).length = l.length - (n - m).toNat := List.length_drop
  unfold imgEn
  rw [hf]
  split
  · rename_i he
    rw [he] at hl
    simp only [List.length_nil] at hl ⊢
    omega
  · rename_i e r he
    have h0 : l[(n - m).toNat]? = some e := by
      have := congrArg (fun z => z[0]?) he
      simpa using this
    have hs := (ents_slot h _ e h0).1
    rw [if_pos (by omega), ← he, hl]
    have := (List.getElem?_eq_some_iff.1 h0).1
    omega
theorem putVt_slot {l : List Vt} {v u : Vt} (h : u ∈ l) : ∃ x ∈ putVt l v, x.slot = u.slot := by
  unfold putVt
  rcases Int.lt_trichotomy u.slot v.slot with h1 | h1 | h1
  · exact ⟨u, List.mem_append_left _ (List.mem_filter.2 ⟨h, decide_eq_true h1⟩), rfl⟩
  · exact ⟨v, List.mem_append_right _ List.mem_cons_self, h1.symm⟩
  · exact ⟨u, List.mem_append_right _ (List.mem_cons_of_mem _ (List.mem_filter.2 ⟨h, decide_eq_true h1⟩)), rfl⟩
theorem behind_slot {l : List Vt} {n : Int} {u : Vt} (h : u ∈ l) : u.slot ≤ n ∨ u ∈ behind l n := by
  rcases Int.lt_or_le n u.slot with h1 | h1
  · exact .inr (List.mem_filter.2 ⟨h, decide_eq_true h1⟩)
  · exact .inl h1
theorem Ge.to {x s t : Sv} (h : Ge x s) (hp : ¬ t.p.lt x.p) (hi : s.index ≤ t.index) (hl : s.last ≤ t.last) (hv : ∀ u ∈ s.votes, u.slot ≤ t.last ∨ ∃ y ∈ t.votes, y.slot = u.slot) : Ge x t := by
  refine ⟨hp, Int.le_trans h.i hi, Int.le_trans h.l hl, fun v hv' => ?_⟩
  rcases h.v v hv' with h1 | ⟨u, h1, h2⟩
  · exact .inl (Int.le_trans h1 hl)
  · rcases hv u h1 with h3 | ⟨y, h3, h4⟩
    · exact .inl (by omega)
    · exact .inr ⟨y, h3, h4.trans h2⟩
theorem Ge.raise {x s : Sv} {b : Bal} (h : Ge x s) : Ge x (s.raise b) := by
  unfold Sv.raise
  split
  · rename_i hb
    refine h.to (fun h2 => h.p ?_) (Int.le_refl _) (Int.le_refl _) fun u hu => .inr ⟨u, hu, rfl⟩
    have h3 : s.p.lt b := hb
    have h4 : b.lt x.p := h2
    unfold Bal.lt at *
    omega
  · exact h
theorem Ge.goes {x s : Sv} {n : Nt} (h : Ge x s) (hc : ChkE s) : Ge x (s.goes n) := by
  unfold Sv.goes
  split
  · exact h.raise
  · split
    · split
      · exact h
      · refine Ge.raise ?_
        exact h.to h.p (Int.le_refl _) (Int.le_refl _) fun u hu => .inr (putVt_slot hu)
    · split
      · split
        · rename_i he
          have hl : ({ s with entries := s.entries ++ [n.entry], votes := behind s.votes n.entry.slot } : Sv).last = s.last + 1 := by
            show s.index + ((s.entries ++ [n.entry]).length : Int) = s.index + (s.entries.length : Int) + 1
            rw [List.length_append]
            simp only [List.length_cons, List.length_nil]
            omega
          refine h.to h.p (Int.le_refl _) (by rw [hl]; omega) fun u hu => ?_
          rcases behind_slot (n := n.entry.slot) hu with h1 | h1
          · exact .inl (by rw [hl]; omega)
          · exact .inr ⟨u, h1, rfl⟩
        · exact h
      · split
        · exact h
        · rename_i he
          have hl := imgEn_last hc.e (n := n.entry.slot) (by omega)
          refine h.to h.p (by show s.index ≤ n.entry.slot; omega) hl fun u hu => ?_
          rcases behind_slot (n := n.entry.slot) hu with h1 | h1
          · refine .inl (Int.le_trans h1 ?_)
            show n.entry.slot ≤ n.entry.slot + ((imgEn s.entries n.entry.slot).length : Int)
            omega
          · exact .inr ⟨u, h1, rfl⟩
theorem into_ge {a b b' : Bo} {n : Nt} (hc : ∀ s ∈ b.groups, chk s = true) (h : b.into n = some b') (hg : ∀ (i : Nat) (x y : Sv), a.groups[i]? = some x → b.groups[i]? = some y → Ge x y) : ∀ (i : Nat) (x y : Sv), a.groups[i]? = some x → b'.groups[i]? = some y → Ge x y := by
  unfold Bo.into at h
  split at h
  · split at h
    · simp only [Option.some.injEq] at h
      subst h
      exact hg
    · cases h
  · split at h
    · cases h
    · split at h
      · rename_i s hs
        split at h
        · simp only [Option.some.injEq] at h
          subst h
          intro i x y hx hy
          rw [List.getElem?_set] at hy
          split at hy
          · rename_i hi
            split at hy
            · simp only [Option.some.injEq] at hy
              subst hy
              subst hi
              exact (hg _ x s hx hs).goes ((chk_iff s).1 (hc s (mem_of hs)))
            · cases hy
          · exact hg i x y hx hy
        · cases h
      · cases h
theorem repl_ge {a : Bo} : ∀ {l : List Nt} {b c : Bo} {N : Nat}, Good b N → repl b l = some c → (∀ (i : Nat) (x y : Sv), a.groups[i]? = some x → b.groups[i]? = some y → Ge x y) → ∀ (i : Nat) (x y : Sv), a.groups[i]? = some x → c.groups[i]? = some y → Ge x y
  | [], b, c, N, _, h, hg => by
    simp only [repl, Option.some.injEq] at h
    subst h; exact hg
  | n :: l, b, c, N, hb, h, hg => by
    rw [repl] at h
    split at h
    · rename_i d hd
      exact repl_ge (hb.into hd) h (into_ge hb.chk hd hg)
    · cases h
theorem repl_split : ∀ {l m : List Nt} {b c : Bo}, repl b l = some c → repl b (l ++ m) = repl c m
  | [], m, b, c, h => by
    simp only [repl, Option.some.injEq] at h
    subst h; rfl
  | n :: l, m, b, c, h => by
    rw [repl] at h
    split at h
    · rename_i d hd
      rw [List.cons_append, repl, hd]
      exact repl_split h
    · cases h
theorem repl_first : ∀ {l m : List Nt} {b : Bo}, repl b l = none → repl b (l ++ m) = none
  | [], m, b, h => by cases h
  | n :: l, m, b, h => by
    rw [repl] at h
    split at h
    · rename_i d hd
      rw [List.cons_append, repl, hd]
      exact repl_first h
    · rename_i hd
      rw [List.cons_append, repl, hd]
/-- Of books that notes and more notes make. -/
theorem grows {l more : List Nt} {a b : Bo} (ha : Good a l.length) (h1 : repl Bo.empty l = some a) (h2 : repl Bo.empty (l ++ more) = some b) : ∀ (i : Nat) (x y : Sv), a.groups[i]? = some x → b.groups[i]? = some y → Ge x y := by
  rw [repl_split h1] at h2
  exact repl_ge ha h2 fun i x y hx hy => by rw [hx] at hy; cases hy; exact Ge.refl x
theorem rep_three {l more : List Nt} {a b : Bo} {e1 e2 : Int} (h1 : Rep l a e1) (h2 : Rep (l ++ more) b e2) : (e1 = 21 ∧ e2 = 21) ∨ (e1 = 0 ∧ e2 = 21) ∨ (e1 = 0 ∧ e2 = 0 ∧ Good a l.length ∧ Good b (l ++ more).length ∧ ∀ (i : Nat) (x y : Sv), a.groups[i]? = some x → b.groups[i]? = some y → Ge x y) := by
  rcases h1 with ⟨h1, h3, h4⟩ | ⟨h1, _, h3⟩
  · rcases h2 with ⟨h2, h5, h6⟩ | ⟨h2, _, h5⟩
    · exact .inr (.inr ⟨h3, h5, h4, h6, grows h4 h1 h2⟩)
    · exact .inr (.inl ⟨h3, h5⟩)
  · rcases h2 with ⟨h2, _⟩ | ⟨_, _, h5⟩
    · rw [repl_first h1] at h2; cases h2
    · exact .inl ⟨h3, h5⟩
theorem bl3o {x q : Nat} {g g' : Option Nat} {T U V : TypeId} {ca cb cc : List Value} (h : x ∈ bl [((some q, T, ca) : Ent), (g, U, cb), (g', V, cc)]) : x = q ∨ g = some x ∨ g' = some x := by
  obtain ⟨e, he, hg⟩ := List.mem_filterMap.1 h
  rcases List.mem_cons.1 he with rfl | he
  · cases hg; exact .inl rfl
  · rcases List.mem_cons.1 he with rfl | he
    · exact .inr (.inl hg)
    · rw [List.mem_singleton.1 he] at hg; exact .inr (.inr hg)
end Go.Proofs.Ytbninklfoogmdaa
