/-
  A log with its book, over a disk that is up and not armed: what the laws' steps leave of it.
-/
import Derived.Test.YtgkciibfpenjpaaWlwE
namespace Go.Proofs.Ytgkciibfpenjpaa
open Go Go.RowKit
/-! ### Rows of whatever number -/
theorem kill_length : ∀ (is : List Nat) (es : List Ent), (kill es is).length = es.length
  | [], _ => rfl
  | i :: is, es => by simp [kill, kill_length is es]
theorem kill_not : ∀ (is : List Nat) (es : List Ent) (j : Nat), j ∉ is → (kill es is)[j]? = es[j]?
  | [], _, _, _ => rfl
  | i :: is, es, j, h => by
    simp only [kill]
    rw [List.getElem?_set_ne (fun e => h (by simp [e])), kill_not is es j (fun hh => h (List.mem_cons_of_mem _ hh))]
section
variable {w0 w w' : World} {S : List Nat} {es es' es1 es2 R : List Ent} {xs ys : List Value} {bs cs : List Blk}
theorem Hp.sub (H : Hp w0 w S es) (φ : Nat → Nat) (h : ∀ i e, es'[i]? = some e → es[φ i]? = some e ∨ (e.1 = none ∧ e.2.2 = [])) (hinj : ∀ i j, i < es'.length → j < es'.length → φ i = φ j → i = j) : Hp w0 w S es' := by
  refine ⟨H.os, H.tape, H.output, H.size, H.frame, ?_, ?_⟩
  · intro i e he
    rcases h i e he with h1 | ⟨h1, h2⟩
    · exact H.ent _ e h1
    · unfold EntOk; rw [h1]; exact h2
  · intro i j e f g hi hj he hf
    rcases h i e hi with h1 | ⟨h1, _⟩
    · rcases h j f hj with h2 | ⟨h2, _⟩
      · exact hinj i j (lt_of_get hi) (lt_of_get hj) (H.apart _ _ e f g h1 h2 he hf)
      · rw [h2] at hf; cases hf
    · rw [h1] at he; cases he
theorem Hp.less (H : Hp w0 w S (es ++ R)) : Hp w0 w S es :=
  H.sub id (fun i e he => .inl (by rw [id, List.getElem?_append_left (lt_of_get he)]; exact he)) (fun _ _ _ _ h => h)
/-- A call that turns the first rows. -/
theorem Hp.front (H : Hp w0 w S (es1 ++ R)) (H' : Hp w w' (bl es1) es2) : Hp w0 w' S (es2 ++ R) := by
  have hS : ∀ b ∈ bl es1, ∃ i ∈ List.range es1.length, ∃ T cs, (es1 ++ R)[i]? = some (some b, T, cs) := by
    intro b hb
    obtain ⟨⟨g, T, cs⟩, he, hg⟩ := List.mem_filterMap.1 hb
    obtain ⟨i, hi⟩ := List.getElem?_of_mem he
    have hlt := lt_of_get hi
    simp only at hg
    subst hg
    exact ⟨i, List.mem_range.2 hlt, T, cs, by rw [List.getElem?_append_left hlt]; exact hi⟩
  have hC := H.call H' (List.range es1.length) hS
  have hlen : (kill (es1 ++ R) (List.range es1.length)).length = es1.length + R.length := by rw [kill_length]; simp
  refine hC.sub (fun i => if i < es2.length then es1.length + R.length + i else es1.length + (i - es2.length)) ?_ ?_
  · intro i e he
    split
    · rename_i h
      left
      rw [List.getElem?_append_right (by omega), hlen, Nat.add_sub_cancel_left]
      rwa [List.getElem?_append_left h] at he
    · rename_i h
      left
      rw [List.getElem?_append_right (by omega)] at he
      have := lt_of_get he
      rw [List.getElem?_append_left (by omega), kill_not _ _ _ (by simp), List.getElem?_append_right (by omega), Nat.add_sub_cancel_left]
      exact he
  · intro i j hi hj h
    simp only [List.length_append] at hi hj
    split at h <;> split at h <;> omega
theorem Hp.all (HB : Hp w0 w S es) (H : Hp w w' (bl es) es') : Hp w0 w' S es' := by
  have := Hp.front (R := []) (by simpa using HB) H
  simpa using this
/-- A call within the first rows. -/
theorem Hp.front2 {a b a2 : List Ent} (H : Hp w0 w S ((a ++ b) ++ R)) (H' : Hp w w' (bl a) a2) : Hp w0 w' S ((a2 ++ b) ++ R) := by
  rw [List.append_assoc] at H ⊢
  exact H.front H'
/-- A call that turned nothing. -/
theorem Hp.callN (H : Hp w0 w S es) (H' : Hp w w' [] es2) : Hp w0 w' S es := (H.call0 H').less
end
structure Sx where
  m : Mw
  D : Dk
  W : Wl
  k : Mk
  K : Bk
@[reducible] def Sx.rows (σ : Sx) : List Ent := bRows σ.m σ.D σ.W σ.k σ.K
structure Live (w : World) (σ : Sx) (F : List Ent) (n c : Nat) : Prop where
  ok : BOk w σ.m σ.D σ.W σ.k σ.K F
  lg : ∃ s, Lg σ.D.show σ.D.kept.length σ.W s
  up : σ.D.down = false
  arm : σ.D.armed = 0
  dead : σ.W.dead = false
  size : σ.D.kept.length = n
  wait : σ.D.wait.length ≤ 300 * c
  turn : σ.W.turn ≤ c
  next : σ.K.all.length ≤ c
  first : σ.W.first ≤ c
def LPost (w0 w' : World) (σ σ' : Sx) (n c : Nat) : Prop := σ'.k.gb = σ.k.gb ∧ XsOk w0 σ.m.xs σ'.m.xs ∧ XsOk w0 σ.k.ys σ'.k.ys ∧ Live w' σ' [] n c ∧ Hp w0 w' (bl σ.rows) σ'.rows
theorem Live.move {w w' : World} {σ : Sx} {F F' es : List Ent} {n c : Nat} (h : Live w σ F n c) (H : Hp w w' (bl (σ.rows ++ F)) es) (is : List Nat) (e : F' = is.map fun i => es.getD i (none, 0, [])) : Live w' σ F' n c := { h with ok := h.ok.move H is e }
theorem Live.keep0 {w w' : World} {σ : Sx} {F es : List Ent} {n c : Nat} (h : Live w σ F n c) (H : Hp w w' [] es) : Live w' σ F n c := { h with ok := h.ok.keep0 H }
theorem Live.less {w : World} {σ : Sx} {F : List Ent} {n c : Nat} (h : Live w σ F n c) : Live w σ [] n c := { h with ok := h.ok.less }
theorem Live.up_ {w : World} {σ : Sx} {F : List Ent} {n c d : Nat} (h : Live w σ F n c) (hd : c ≤ d) : Live w σ F n d := { h with wait := by have := h.wait; omega, turn := Nat.le_trans h.turn hd, next := Nat.le_trans h.next hd, first := Nat.le_trans h.first hd }
theorem LPost.more {w w' : World} {σ σ' : Sx} {F : List Ent} {n c d : Nat} (hp : LPost w w' σ σ' n c) (h : Live w σ F n d) (hF : ∀ b ∈ bl F, b < w.heap.size) : ∃ k', k' = σ'.k ∧ σ'.k.gb = σ.k.gb ∧ Live w' σ' F n c ∧ Hp w w' (bl σ.rows) σ'.rows := by
  obtain ⟨e1, e2, e3, hl, H⟩ := hp
  have hF2 : ∀ b ∈ bl F, b ∈ bl (σ.rows ++ F) ∧ b < w.heap.size := fun b hb => ⟨by rw [bl_append]; exact List.mem_append.2 (.inr hb), hF b hb⟩
  have hr := Lsw.frame h.ok.recs e2 hl.ok.recs hF2
  have ha := Lsw.frame h.ok.all e3 hl.ok.all hF2
  rw [List.append_nil] at hr ha
  exact ⟨_, rfl, e1, { hl with ok := { hl.ok with recs := hr, all := ha } }, H⟩
theorem Live.grow {w w' : World} {σ : Sx} {F G F' : List Ent} {n c : Nat} (h : Live w σ F n c) (H : Hp w w' (bl (σ.rows ++ F)) ((σ.rows ++ F) ++ G)) (e : F' = F ++ G) : Live w' σ F' n c := by
  subst e
  refine { h with ok := h.ok.keepF H (fun _ hb => hb) (fun b hb => ?_) }
  refine bl_place H b ?_
  rw [List.append_assoc, bl_append]
  exact List.mem_append.2 (.inr hb)
theorem lt_rest {w0 w : World} {S : List Nat} {es F : List Ent} (H : Hp w0 w S (es ++ F)) : ∀ b ∈ bl F, b < w.heap.size := fun b hb => lt_here H b (by rw [bl_append]; exact List.mem_append.2 (.inr hb))
theorem lt_rest2 {w0 w : World} {S : List Nat} {a b F : List Ent} (H : Hp w0 w S ((a ++ b) ++ F)) : ∀ x ∈ bl (b ++ F), x < w.heap.size := lt_rest (es := a) (by rw [← List.append_assoc]; exact H)
/-- How an Append ends here. -/
def AppO (n : Nat) (σ : Sx) (b : Blk) (σ' : Sx) : Prop :=
  (16384 < b.length ∧ σ'.W = σ.W ∧ σ'.K = σ.K) ∨ (b.length ≤ 16384 ∧ n / 2 < used σ.W.recs + wgt b.length + 16 ∧ σ'.W = σ.W ∧ σ'.K = σ.K) ∨
  (b.length ≤ 16384 ∧ used σ.W.recs + wgt b.length + 16 ≤ n / 2 ∧ σ'.W.recs = σ.W.recs ++ [b] ∧ σ'.W.first = σ.W.first ∧ σ'.W.told = σ.W.told ∧ σ'.K = σ.K.push b)
theorem AppO.fits {n : Nat} {σ σ' : Sx} {b : Blk} (h : AppO n σ b σ') (h1 : b.length ≤ 16384) (h2 : used σ.W.recs + wgt b.length + 16 ≤ n / 2) : σ'.W.recs = σ.W.recs ++ [b] ∧ σ'.W.first = σ.W.first ∧ σ'.W.told = σ.W.told ∧ σ'.K = σ.K.push b := by
  rcases h with ⟨h3, _⟩ | ⟨_, h3, _⟩ | ⟨_, _, h3⟩
  · omega
  · omega
  · exact h3
theorem AppO.long {n : Nat} {σ σ' : Sx} {b : Blk} (h : AppO n σ b σ') (h1 : 16384 < b.length) : σ'.W = σ.W ∧ σ'.K = σ.K := by
  rcases h with ⟨_, h3⟩ | ⟨h3, _⟩ | ⟨h3, _⟩
  · exact h3
  · omega
  · omega
set_option maxHeartbeats 1000000 in
theorem liveAppend_any (σ : Sx) (n c : Nat) (w0 : World) (H0 : Hp w0 w0 (bl σ.rows) σ.rows) (h : Live w0 σ [] n c) (hag : Agr σ.W σ.K) (hc : c ≤ 5000) (A : Option Addr) (b : Blk) (cc : Nat) (hr : Rd w0 A b.length 1 (u8s b)) (ha : 0 < b.length → ∀ p, A = some p → p.block ∉ bl σ.rows) (hbl : b.length ≤ 2 ^ 46) :
    Does Try.prog 14 #[.pointer (some ⟨σ.k.gb, 0, none⟩), .slice A b.length cc] w0 (fun r w' => r = .bool true ∧ ∃ σ' : Sx, LPost w0 w' σ σ' n (c + 1) ∧ Agr σ'.W σ'.K ∧ AppO n σ b σ') := by
  obtain ⟨s, hlg⟩ := h.lg
  have h1 := h.wait
  have h2 := h.turn
  have h3 := h.next
  have h4 := h.first
  have hn := h.size
  refine (appendB_any σ.m σ.D σ.W σ.k σ.K w0 H0 h.ok s hlg h.up h.dead hag (by omega) (by omega) (by omega) (by omega) A b cc hr ha hbl).mono ?_
  rintro r w' ⟨hr, D', W', K', ⟨x, hal, hk⟩, m', k', e1, e2, e3, hok, H⟩
  refine ⟨hr, ⟨m', D', W', k', K'⟩, ?_⟩
  rcases hal with ⟨a1, a2, rfl, rfl⟩ | ⟨a0, a1, a2, rfl, rfl⟩ | ⟨a1, a2, a3, ⟨xs, a4, a5, _⟩, ⟨a6, a7, a8, a9, rfl⟩ | ⟨_, a6, _⟩⟩
  · obtain ⟨_, rfl⟩ : (x = 22 ∨ x = 3) ∧ K' = σ.K := by rcases hk with hk | ⟨hk, _⟩; exact hk; omega
    exact ⟨⟨e1, e2, e3, ⟨hok, ⟨s, hlg⟩, h.up, h.arm, h.dead, hn, Nat.le_trans h1 (by omega), Nat.le_trans h2 (by omega), Nat.le_trans h3 (by omega), Nat.le_trans h4 (by omega)⟩, H⟩, hag, .inl ⟨a1, rfl, rfl⟩⟩
  · obtain ⟨_, rfl⟩ : (x = 22 ∨ x = 3) ∧ K' = σ.K := by rcases hk with hk | ⟨hk, _⟩; exact hk; omega
    exact ⟨⟨e1, e2, e3, ⟨hok, ⟨s, hlg⟩, h.up, h.arm, h.dead, hn, Nat.le_trans h1 (by omega), Nat.le_trans h2 (by omega), Nat.le_trans h3 (by omega), Nat.le_trans h4 (by omega)⟩, H⟩, hag, .inr (.inl ⟨a0, by rw [← hn]; exact a1, rfl, rfl⟩)⟩
  · obtain ⟨_, rfl⟩ : (x = 0 ∨ x = 40) ∧ K' = σ.K.push b := by rcases hk with ⟨hk, _⟩ | hk; omega; exact hk
    have e : (σ.K.push b).all.length = σ.K.all.length + 1 := by simp [Bk.push]
    refine ⟨⟨e1, e2, e3, ⟨hok, ⟨s, by show Lg D'.show D'.kept.length _ s; rw [a3]; exact a7⟩, a8, a9 h.arm, h.dead, by show D'.kept.length = n; rw [a3]; exact hn, ?_, ?_, ?_, ?_⟩, H⟩, hag.push σ.D b, .inr (.inr ⟨a1, by rw [← hn]; exact a2, rfl, rfl, rfl, rfl⟩)⟩
    · show D'.wait.length ≤ _
      rw [a4, List.length_append]; omega
    · show σ.W.turn ≤ c + 1
      omega
    · show (σ.K.push b).all.length ≤ c + 1
      omega
    · show σ.W.first ≤ c + 1
      omega
  · have := h.arm
    omega
/-- A Sync, a Cut. -/
theorem Live.sc {w w' : World} {σ : Sx} {F : List Ent} {n c gone : Nat} (h : Live w σ F n c) (hc : c ≤ 5000) (hF : ∀ b ∈ bl (kRows σ.m σ.k σ.K ++ F), b < w.heap.size) (hg : gone ≤ σ.W.recs.length) {x : Int} {D' : Dk} {W' : Wl} (hr : ScRes σ.D σ.W gone x D' W') (hp : WPost w w' (bl (wRows σ.m σ.D σ.W)) σ.m D' W') (hfn : σ.W.first + σ.W.recs.length ≤ c) :
    x = 0 ∧ W'.recs = σ.W.recs.drop gone ∧ W'.first = σ.W.first + gone ∧ W'.told = W'.recs.length ∧ D'.wait = [] ∧ ∃ q : Mw, Live w' ⟨mv σ.m q, D', W', σ.k, σ.K⟩ F n (c + 1) ∧ Hp w w' (bl (wRows σ.m σ.D σ.W)) (wRows (mv σ.m q) D' W') := by
  obtain ⟨s, hlg⟩ := h.lg
  have h2 := h.turn
  have h3 := h.next
  have h4 := h.first
  obtain ⟨a1, a2, a3, a4, a5, a6, a7, a8, a9, a10, s', a11⟩ := sc_law hlg h.up h.arm h.dead hg (by omega) (by omega) h.ok.ok.d.most hr
  obtain ⟨q, _, hb, H⟩ := h.ok.call hF hp
  refine ⟨a1, a7, a8, a9, a4, q, ⟨hb, ⟨s', a11⟩, a2, a3, a6, a5.trans h.size, ?_, ?_, ?_, ?_⟩, H⟩
  · show D'.wait.length ≤ _
    rw [a4]; exact Nat.zero_le _
  · show W'.turn ≤ c + 1
    omega
  · show σ.K.all.length ≤ c + 1
    omega
  · show W'.first ≤ c + 1
    omega
/-- A Cut at a number that is none. -/
theorem cut_none {w w' : World} {m : Mw} {D : Dk} {W : Wl} {n : Int} {r : Value} (h : (((n < (W.first : Int) ∨ ((W.first + W.recs.length : Nat) : Int) < n) ∧ r = .int .i64 1 ∧ WPost w w' (bl (wRows m D W)) m D W) ∨ (∃ gone : Nat, n = ((W.first + gone : Nat) : Int) ∧ gone ≤ W.recs.length ∧ ∃ x D' W', r = .int .i64 x ∧ ScRes D W gone x D' W' ∧ WPost w w' (bl (wRows m D W)) m D' W'))) (hn : n < (W.first : Int) ∨ ((W.first + W.recs.length : Nat) : Int) < n) : r = .int .i64 1 ∧ WPost w w' (bl (wRows m D W)) m D W := by
  rcases h with ⟨_, h⟩ | ⟨gone, h1, h2, _⟩
  · exact h
  · omega
theorem cut_some {w w' : World} {m : Mw} {D : Dk} {W : Wl} {n : Int} {r : Value} (h : (((n < (W.first : Int) ∨ ((W.first + W.recs.length : Nat) : Int) < n) ∧ r = .int .i64 1 ∧ WPost w w' (bl (wRows m D W)) m D W) ∨ (∃ gone : Nat, n = ((W.first + gone : Nat) : Int) ∧ gone ≤ W.recs.length ∧ ∃ x D' W', r = .int .i64 x ∧ ScRes D W gone x D' W' ∧ WPost w w' (bl (wRows m D W)) m D' W'))) {gone : Nat} (hn : n = ((W.first + gone : Nat) : Int)) (hg : gone ≤ W.recs.length) : ∃ x D' W', r = .int .i64 x ∧ ScRes D W gone x D' W' ∧ WPost w w' (bl (wRows m D W)) m D' W' := by
  rcases h with ⟨h, _⟩ | ⟨g, h1, h2, h3⟩
  · omega
  · have : g = gone := by omega
    subst this
    exact h3
/-- A call that leaves the log as it is. -/
theorem Live.same {w w' : World} {σ : Sx} {F : List Ent} {n c : Nat} (h : Live w σ F n c) (hF : ∀ b ∈ bl (kRows σ.m σ.k σ.K ++ F), b < w.heap.size) (hp : WPost w w' (bl (wRows σ.m σ.D σ.W)) σ.m σ.D σ.W) :
    ∃ q : Mw, Live w' ⟨mv σ.m q, σ.D, σ.W, σ.k, σ.K⟩ F n c ∧ Hp w w' (bl (wRows σ.m σ.D σ.W)) (wRows (mv σ.m q) σ.D σ.W) := by
  obtain ⟨q, _, hb, H⟩ := h.ok.call hF hp
  exact ⟨q, { h with ok := hb }, H⟩
/-- A log with its book, over an empty disk. -/
theorem Live.begin {w : World} {m : Mw} {n gb : Nat} {F : List Ent} (hn : 64 ≤ n) (h : BOk w m ⟨List.replicate n zero64, [], false, 0, n, []⟩ (Wl.anew 0 0 0) ⟨gb, none, 0, [], []⟩ ⟨[], 0, 0, -1, 0⟩ []) : Live w ⟨m, ⟨List.replicate n zero64, [], false, 0, n, []⟩, Wl.anew 0 0 0, ⟨gb, none, 0, [], []⟩, ⟨[], 0, 0, -1, 0⟩⟩ F n 0 :=
  ⟨{ h with recs := ⟨h.recs.1, fun i hi => absurd hi (by simp)⟩, all := ⟨h.all.1, fun i hi => absurd hi (by simp)⟩ }, ⟨0, Lg.empty0 hn⟩, rfl, rfl, rfl, List.length_replicate .., Nat.zero_le _, Nat.zero_le _, Nat.zero_le _, Nat.zero_le _⟩
theorem Agr.begin : Agr (Wl.anew 0 0 0) ⟨[], 0, 0, -1, 0⟩ := ⟨rfl, rfl, rfl⟩
theorem liveBegin_any (n : Nat) (w0 : World) (hn : 64 ≤ n) (hn2 : n ≤ 16384) : Does Try.prog 9 #[.int .i64 (n : Int)] w0 (fun r w' => ∃ σ : Sx, r = .pointer (some ⟨σ.k.gb, 0, none⟩) ∧ Live w' σ [] n 0 ∧ Agr σ.W σ.K ∧ σ.W.recs = [] ∧ σ.W.first = 0 ∧ σ.W.told = 0 ∧ σ.K.all = [] ∧ σ.K.first = 0 ∧ Hp w0 w' [] σ.rows) := by
  refine (begin_any n w0 hn hn2).mono ?_
  rintro r w' ⟨m, gb, hr, hok, H⟩
  exact ⟨_, hr, Live.begin hn hok, Agr.begin, rfl, rfl, rfl, rfl, rfl, H⟩
theorem u8s_zero (n : Nat) : u8s (List.replicate n 0) = List.replicate n (.int .u8 0) := by simp [u8s]
theorem Ownw.last0 {z : Nat} {w : World} {ys sp : List Value} {pre bs : List Blk} (h : Ownw z w ys bs) (hb : bs = pre ++ [[]]) {i : Nat} (hi : i = pre.length) : ∃ (B : Option Addr) (c : Nat), (ys ++ sp)[i]? = some (.slice B 0 c) := by
  subst hb hi
  obtain ⟨g, c, s, h1, _⟩ := h.own pre.length (by simp)
  refine ⟨hd g, c, ?_⟩
  rw [List.getElem?_append_left (by rw [h.len]; simp), h1]
  simp
end Go.Proofs.Ytgkciibfpenjpaa
