/-
  What All hands out; another disk's log.
-/
import Derived.Test.YtgkciibfpenjpaaWlwN
namespace Go.Proofs.Ytgkciibfpenjpaa
open Go Go.RowKit
theorem Live.any {w w' : World} {σ : Sx} {F F' : List Ent} {n c : Nat} (h : Live w σ F n c) (hr : σ.W.recs = []) (ha : σ.K.all = []) : Live w' σ F' n c := by
  have h1 : ∀ es, Lsw w' es σ.m.xs σ.W.recs := fun es => ⟨h.ok.recs.1, fun i hi => absurd hi (by rw [hr]; simp)⟩
  have h2 : ∀ es, Lsw w' es σ.k.ys σ.K.all := fun es => ⟨h.ok.all.1, fun i hi => absurd hi (by rw [ha]; simp)⟩
  exact { h with ok := { h.ok with ok := { h.ok.ok with lst := h1 _ }, recs := h1 _, all := h2 _ } }
theorem Hp.step {w0 w w' : World} {S S2 : List Nat} {es es2 : List Ent} (H : Hp w0 w S es) (H' : Hp w w' S2 es2) (hS : ∀ b ∈ S2, b ∈ S ∨ w0.heap.size ≤ b) : Hp w0 w' S es2 := by
  refine ⟨H'.os.trans H.os, H'.tape.trans H.tape, H'.output.trans H.output, Nat.le_trans H.size H'.size, ?_, ?_, H'.apart⟩
  · intro k hk hkS
    rw [H'.frame k (by have := H.size; omega) (fun hx => by rcases hS k hx with h1 | h1; exact hkS h1; omega)]
    exact H.frame k hk hkS
  · intro i e he
    have h1 := H'.ent i e he
    unfold EntOk at h1 ⊢
    split
    · rename_i hn; rw [hn] at h1; exact h1
    · rename_i g hg
      rw [hg] at h1
      refine ⟨h1.1, ?_⟩
      rcases h1.2 with h2 | h2
      · exact hS g h2
      · exact .inr (Nat.le_trans H.size h2)
theorem Hp.both {w : World} {a b : List Ent} (H : Hp w w (bl a) a) (H' : Hp w w (bl b) b) (hd : ∀ x ∈ bl a, x ∉ bl b) : Hp w w (bl (a ++ b)) (a ++ b) := by
  refine ⟨rfl, rfl, rfl, Nat.le_refl _, fun _ _ _ => rfl, ?_, ?_⟩
  · intro i e he
    rw [bl_append]
    rcases Nat.lt_or_ge i a.length with h1 | h1
    · rw [List.getElem?_append_left h1] at he
      have h2 := H.ent i e he
      unfold EntOk at h2 ⊢
      split
      · rename_i hn; rw [hn] at h2; exact h2
      · rename_i g hg
        rw [hg] at h2
        exact ⟨h2.1, .inl (List.mem_append.2 (.inl (List.mem_filterMap.2 ⟨e, List.mem_of_getElem? he, hg⟩)))⟩
    · rw [List.getElem?_append_right h1] at he
      have h2 := H'.ent _ e he
      unfold EntOk at h2 ⊢
      split
      · rename_i hn; rw [hn] at h2; exact h2
      · rename_i g hg
        rw [hg] at h2
        exact ⟨h2.1, .inl (List.mem_append.2 (.inr (List.mem_filterMap.2 ⟨e, List.mem_of_getElem? he, hg⟩)))⟩
  · intro i j e f g hi hj he hf
    rcases Nat.lt_or_ge i a.length with h1 | h1 <;> rcases Nat.lt_or_ge j a.length with h2 | h2
    · rw [List.getElem?_append_left h1] at hi
      rw [List.getElem?_append_left h2] at hj
      exact H.apart i j e f g hi hj he hf
    · rw [List.getElem?_append_left h1] at hi
      rw [List.getElem?_append_right h2] at hj
      exact absurd (List.mem_filterMap.2 ⟨f, List.mem_of_getElem? hj, hf⟩) (hd g (List.mem_filterMap.2 ⟨e, List.mem_of_getElem? hi, he⟩))
    · rw [List.getElem?_append_right h1] at hi
      rw [List.getElem?_append_left h2] at hj
      exact absurd (List.mem_filterMap.2 ⟨e, List.mem_of_getElem? hi, he⟩) (hd g (List.mem_filterMap.2 ⟨f, List.mem_of_getElem? hj, hf⟩))
    · rw [List.getElem?_append_right h1] at hi
      rw [List.getElem?_append_right h2] at hj
      have := H'.apart _ _ e f g hi hj he hf
      omega
theorem WOk.keep0 {w w' : World} {m : Mw} {D : Dk} {W : Wl} {es : List Ent} (h : WOk w m D W) (H : Hp w w' [] es) : WOk w' m D W :=
  { h with lst := h.lst.keep H (fun _ hb => by cases hb) (fun _ hb => .inl hb) }
/-- A log is opened on any disk that has one. -/
theorem openLg_any (gd gk : Nat) (gw : Option Nat) (cw : Nat) (sp : List Value) (D : Dk) (w0 : World) (H0 : Hp w0 w0 (bl (dRows gd gk gw cw sp D)) (dRows gd gk gw cw sp D)) (hD : DOk D gw cw sp) (hd : D.down = false) (hwt : D.wait.length ≤ 1000000000) (W : Wl) (s : Nat) (hlg : Lg D.show D.kept.length W s) (ht : W.told = W.recs.length) (htu : W.turn ≤ 2 ^ 50) (hfi : W.first ≤ 2 ^ 50) :
    Does Try.prog 18 #[.pointer (some ⟨gd, 0, none⟩)] w0 (fun r w' => ∃ (m : Mw) (W' : Wl), r = .tuple #[.pointer (some ⟨m.gv, 0, none⟩), .int .i64 0] ∧ WOk w' m D W' ∧ Hp w0 w' (bl (dRows gd gk gw cw sp D)) (wRows m D W') ∧ W'.recs = W.recs ∧ W'.first = W.first) := by
  have hus := nbs_le W.recs
  have hrm := hlg.room
  have hsz := hlg.size
  have hmo := hD.most
  obtain ⟨a1, a2, a3, a4, a5, a6, a7, a8⟩ := open_law hlg ht
  refine ((Rn.open_any gd gk gw cw sp D w0 H0 hD hd hlg.size hwt W.turn W.first s W.recs ?_ (by omega) (by omega) hlg.sl a2 (by omega) (by omega) hlg.long (by omega)).d (fun _ _ h => h)).mono ?_
  · rw [a1]
  · rintro r w' ⟨m, hr, e1, e2, _, _, hok, H⟩
    exact ⟨m, _, hr, hok, H, a4, a5⟩
/-- Records that were handed out, whatever is in them now. -/
structure Ownz (w : World) (ys : List Value) (bs : List Blk) (G : List Nat) : Prop where
  len : ys.length = bs.length
  own : ∀ i (h : i < bs.length), ∃ (g : Option Nat) (cap : Nat), ys[i]? = some (.slice (hd g) bs[i].length cap) ∧ (g = none → bs[i].length = 0) ∧ ∀ gx, g = some gx → gx ∈ G ∧ ∃ cs : List Value, w.heap[gx]? = some (.cells cs.toArray 5 (0, 0)) ∧ bs[i].length ≤ cs.length
theorem Ownw.weak {z : Nat} {w : World} {ys : List Value} {bs : List Blk} (h : Ownw z w ys bs) : Ownz w ys bs (recAll ys) := by
  refine ⟨h.len, fun i hi => ?_⟩
  obtain ⟨g, cap, sp, h1, h2, h3, h4, h5⟩ := h.own i hi
  refine ⟨g, cap, h1, fun hg => by have := h4 hg; omega, fun gx hg => ⟨List.mem_filterMap.2 ⟨_, List.mem_of_getElem? h1, by rw [hg]; rfl⟩, _, (h5 gx hg).1, by rw [List.length_append, u8s_length]; omega⟩⟩
theorem Ownz.store {w w' : World} {ys : List Value} {bs : List Blk} {G : List Nat} {g : Nat} {cs cs' : List Value} {T : TypeId} (h : Ownz w ys bs G) (hc : w.heap[g]? = some (.cells cs.toArray 5 (0, 0))) (hT : T = 5) (H : Hp w w' [g] [(some g, T, cs')]) (hl : cs'.length = cs.length) : Ownz w' ys bs G := by
  subst hT
  refine ⟨h.len, fun i hi => ?_⟩
  obtain ⟨g2, cap, h1, h2, h3⟩ := h.own i hi
  refine ⟨g2, cap, h1, h2, fun gx hg => ?_⟩
  obtain ⟨h4, cx, h5, h6⟩ := h3 gx hg
  refine ⟨h4, ?_⟩
  by_cases hgg : gx = g
  · subst hgg
    rw [hc] at h5
    simp only [Option.some.injEq, Obj.cells.injEq, and_true] at h5
    have e : cs = cx := by simpa using h5
    exact ⟨cs', H.at (i := 0) rfl, by rw [hl, e]; exact h6⟩
  · exact ⟨cx, by rw [H.frame gx (Array.getElem?_eq_some_iff.1 h5).1 (by simpa using hgg)]; exact h5, h6⟩
theorem at_drop {l r : List Blk} {f k : Nat} {b : Blk} (h : r = l.drop f) (hk : r[k]? = some b) : ∃ hlt : f + k < l.length, l[f + k] = b := by
  rw [h, List.getElem?_drop] at hk
  obtain ⟨h1, h2⟩ := List.getElem?_eq_some_iff.1 hk
  exact ⟨h1, h2⟩
theorem bl_inr {a b : List Ent} {x : Nat} (h : x ∈ bl b) : x ∈ bl (a ++ b) := by rw [bl_append]; exact List.mem_append.2 (.inr h)
theorem bl_inl {a b : List Ent} {x : Nat} (h : x ∈ bl a) : x ∈ bl (a ++ b) := by rw [bl_append]; exact List.mem_append.2 (.inl h)
theorem cons_not {g a v : Nat} {l : List Nat} (h1 : g ≠ a) (h2 : g ≠ v) (h3 : g ∉ l) : g ∉ a :: v :: l := by
  intro h
  rcases List.mem_cons.1 h with h | h
  · exact h1 h
  · rcases List.mem_cons.1 h with h | h
    · exact h2 h
    · exact h3 h
theorem keepD {w w' : World} {S : List Nat} {es : List Ent} {D : Nat} {x : Option (List Deferred)} (hD : w.heap[D]? = some (.deferred x)) (H : Hp w w' S es) (hS : ∀ b ∈ S, ∃ arr T z, w.heap[b]? = some (.cells arr T z)) : w'.heap[D]? = some (.deferred x) := by
  refine (H.frame D (Array.getElem?_eq_some_iff.1 hD).1 (fun hx => ?_)).trans hD
  obtain ⟨arr, T, z, hh⟩ := hS D hx
  rw [hD] at hh; cases hh
theorem lists_any2 (A B : Option Addr) (bs : List Blk) (c d n2 : Nat) (xs ys : List Value) (w0 : World) (hn : n2 = bs.length) (hA : Rd w0 A bs.length 1 xs) (hB : Rd w0 B n2 1 ys) (hX : Lsw w0 [] xs bs) (hY : Lsw w0 [] ys bs) (hb : bs.length ≤ 16384) (h64 : ∀ b ∈ bs, b.length ≤ 16384) : Does Try.prog 23 #[.slice A bs.length c, .slice B n2 d] w0 (fun r w' => r = .bool true ∧ Hp w0 w' [] []) := by
  subst hn
  exact lists_any A B bs c d xs ys w0 hA hB hX hY hb h64
end Go.Proofs.Ytgkciibfpenjpaa
