/-
  More of what the laws' steps leave of a log and its book.
-/
import Derived.Test.YtgkciibfpenjpaaLv
namespace Go.Proofs.Ytgkciibfpenjpaa
open Go Go.RowKit
theorem Live.to {w w' : World} {σ : Sx} {F es : List Ent} {n c : Nat} (h : Live w σ F n c) (H : Hp w w' (bl (σ.rows ++ F)) es) : Live w' σ F n c := { h with ok := h.ok.keep H (fun _ hb => hb) }
theorem Live.lessF {w : World} {σ : Sx} {F G : List Ent} {n c : Nat} (h : Live w σ (F ++ G) n c) : Live w σ F n c :=
  { h with ok := h.ok.keepF (Hp.refl w) (fun _ hb => by cases hb) (fun b hb => .inl (by rw [bl_append, bl_append F G]; exact List.mem_append.2 (.inr (List.mem_append.2 (.inl hb))))) }
/-- The book's numbers changed. -/
theorem Live.re {w : World} {σ : Sx} {F : List Ent} {n c : Nat} (h : Live w σ F n c) (K' : Bk) (hK : K'.all = σ.K.all) : Live w ⟨σ.m, σ.D, σ.W, σ.k, K'⟩ F n c := by
  obtain ⟨⟨a1, a2, a3, a4, a5, a6, a7, a8⟩, b1, b2, b3, b4, b5, b6, b7, b8, b9⟩ := h
  refine ⟨⟨a1, a2, ?_, ?_, a5, a6, ?_, ?_⟩, b1, b2, b3, b4, b5, b6, b7, ?_, b9⟩
  · rw [hK]; exact a3
  · show K'.all.length ≤ _; rw [hK]; exact a4
  · show K'.all.length ≤ _; rw [hK]; exact a7
  · show ∀ b ∈ K'.all, _; rw [hK]; exact a8
  · show K'.all.length ≤ _; rw [hK]; exact b8
/-- An Append to the log alone. -/
theorem Live.app {w w' : World} {σ : Sx} {F : List Ent} {n c : Nat} {b : Blk} {x : Int} {D' : Dk} {W' : Wl} (h : Live w σ F n c) (hF : ∀ b ∈ bl (kRows σ.m σ.k σ.K ++ F), b < w.heap.size) (hb : b.length ≤ 16384) (hr : AppRes σ.D σ.W b x D' W') (hp : WPost w w' (bl (wRows σ.m σ.D σ.W)) σ.m D' W') :
    ∃ q : Mw, Live w' ⟨mv σ.m q, D', W', σ.k, σ.K⟩ F n (c + 1) ∧ Hp w w' (bl (wRows σ.m σ.D σ.W)) (wRows (mv σ.m q) D' W') ∧ ((x = 3 ∧ n / 2 < used σ.W.recs + wgt b.length + 16 ∧ W' = σ.W) ∨ (x = 0 ∧ used σ.W.recs + wgt b.length + 16 ≤ n / 2 ∧ W' = σ.W.took σ.D b)) := by
  obtain ⟨s, hlg⟩ := h.lg
  have h1 := h.wait
  have h2 := h.turn
  have h3 := h.next
  have h4 := h.first
  have hn := h.size
  obtain ⟨q, _, hbk, H⟩ := h.ok.call hF hp
  rcases app_law hlg h.up h.dead hr with ⟨a1, _⟩ | ⟨a0, a1, a2, rfl, rfl⟩ | ⟨a1, a2, a3, ⟨xs, a4, a5, _⟩, ⟨a6, a7, a8, a9, rfl⟩ | ⟨_, a6, _⟩⟩
  · omega
  · exact ⟨q, ⟨hbk, ⟨s, hlg⟩, h.up, h.arm, h.dead, hn, Nat.le_trans h1 (by omega), Nat.le_trans h2 (by omega), Nat.le_trans h3 (by omega), Nat.le_trans h4 (by omega)⟩, H, .inl ⟨a2, by rw [← hn]; exact a1, rfl⟩⟩
  · refine ⟨q, ⟨hbk, ⟨s, by show Lg D'.show D'.kept.length _ s; rw [a3]; exact a7⟩, a8, a9 h.arm, h.dead, by show D'.kept.length = n; rw [a3]; exact hn, ?_, Nat.le_trans h2 (by omega), Nat.le_trans h3 (by omega), Nat.le_trans h4 (by omega)⟩, H, .inr ⟨a6, by rw [← hn]; exact a2, rfl⟩⟩
    show D'.wait.length ≤ _
    rw [a4, List.length_append]; omega
  · have := h.arm
    omega
theorem Live.push {wL w : World} {σ : Sx} {F F' es : List Ent} {n c d : Nat} (h : Live wL σ F n c) (H : Hp wL w (bl (σ.rows ++ F)) es) {g g9 : Option Nat} {cc c9 : Nat} {s : List Value} {b : Blk} (hsub : ∀ x ∈ bl (bRows σ.m σ.D σ.W (σ.k.push g cc s g9 b.length c9) (σ.K.push b) ++ F'), x ∈ bl es) (hr : Rd w (hd g9) b.length 1 (u8s b)) (ha : ∀ p, hd g9 = some p → p.block ∉ bl (bRows σ.m σ.D σ.W (σ.k.push g cc s g9 b.length c9) (σ.K.push b) ++ F'))
    (hm : σ.K.all.length + 1 ≤ cc) (hc : cc ≤ ((σ.k.ys ++ [Value.slice (hd g9) b.length c9]) ++ s).length) (hn : g = none → cc = 0) (hb : b.length ≤ 16384) (hl : σ.K.all.length < d) (hd0 : c ≤ d) (hd1 : d ≤ 16384) : Live w ⟨σ.m, σ.D, σ.W, σ.k.push g cc s g9 b.length c9, σ.K.push b⟩ F' n d := by
  have e0 : ∀ es1 : List Ent, es1 ++ [] = es1 := fun es1 => List.append_nil _
  have hs2 : ∀ x ∈ bl (bRows σ.m σ.D σ.W (σ.k.push g cc s g9 b.length c9) (σ.K.push b)), x ∈ bl es := fun x hx => hsub x (by rw [bl_append]; exact List.mem_append.2 (.inl hx))
  have h1 := h.ok.push H hs2 hr (fun p hp hx => ha p hp (by rw [bl_append]; exact List.mem_append.2 (.inl hx))) hm hc hn hb (by omega)
  have h2 : BOk w σ.m σ.D σ.W (σ.k.push g cc s g9 b.length c9) (σ.K.push b) F' := by
    have hr1 : Lsw w (bRows σ.m σ.D σ.W (σ.k.push g cc s g9 b.length c9) (σ.K.push b) ++ F') σ.m.xs σ.W.recs := (h.ok.recs.to H).less hsub
    exact { h1 with recs := hr1, all := Lsw.snoc ((h.ok.all.to H).less hsub) hr (fun _ p hp hx => ha p hp hx) }
  exact ⟨h2, h.lg, h.up, h.arm, h.dead, h.size, Nat.le_trans h.wait (by omega), Nat.le_trans h.turn hd0, by show (σ.K.all ++ [b]).length ≤ d; rw [List.length_append]; exact hl, Nat.le_trans h.first hd0⟩
/-! ### Costs -/
structure CostOk (σ : Sx) (gc : Option Nat) (cc : Nat) (cl : List Nat) (sp : List Value) : Prop where
  len : cl.length = σ.K.all.length
  sum : cl.drop σ.K.first = σ.W.recs.map fun r => wgt r.length
  cap : cl.length ≤ cc
  room : cc ≤ (i64n cl ++ sp).length
  nil : gc = none → cc = 0
theorem w63 (n : Nat) (h : n ≤ 2 ^ 40) : IntKind.i64.wrap (((n : Int) + 63).tdiv 64) = (((n + 63) / 64 : Nat) : Int) := by
  rw [show ((n : Int) + 63) = ((n + 63 : Nat) : Int) by omega, show (((n + 63 : Nat) : Int)).tdiv 64 = (((n + 63) / 64 : Nat) : Int) from rfl]
  exact IntWalk.i64_in _ (by omega)
theorem sum_step {cl : List Nat} {a j : Nat} (ha : a ≤ j) (hj : j < cl.length) : ((cl.drop a).take (j + 1 - a)).sum = ((cl.drop a).take (j - a)).sum + cl[j] := by
  have e : j + 1 - a = (j - a) + 1 := by omega
  have h : (cl.drop a)[j - a]? = some cl[j] := by rw [List.getElem?_drop, show a + (j - a) = j by omega, List.getElem?_eq_getElem hj]
  rw [e, List.take_add_one, h, List.sum_append]
  rfl
theorem take_sum_le (l : List Nat) (k : Nat) : (l.take k).sum ≤ l.sum := by
  have := congrArg List.sum (List.take_append_drop k l)
  rw [List.sum_append] at this
  omega
theorem CostOk.used {σ : Sx} {gc : Option Nat} {cc : Nat} {cl : List Nat} {sp : List Value} (h : CostOk σ gc cc cl sp) : (cl.drop σ.K.first).sum = Go.Proofs.Ytgkciibfpenjpaa.used σ.W.recs := by rw [h.sum]; rfl
end Go.Proofs.Ytgkciibfpenjpaa
