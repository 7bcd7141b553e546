/-
  A log's disk that is armed, that falls, and is opened again: what stays.
-/
import Derived.Test.YtgkciibfpenjpaaLx
namespace Go.Proofs.Ytgkciibfpenjpaa
open Go Go.RowKit
@[reducible] def md (m q : Mw) : Mw := { m with gw := q.gw, cw := q.cw, sp := q.sp }
@[reducible] def eRows (m : Mw) (D : Dk) (k : Mk) (K : Bk) : List Ent := dRows m.gd m.gk m.gw m.cw m.sp D ++ kRows m k K
/-- The disk and the book, whatever log there is. -/
structure EOk (w : World) (m : Mw) (D : Dk) (k : Mk) (K : Bk) : Prop where
  d : DOk D m.gw m.cw m.sp
  all : Lsw w (eRows m D k K) k.ys K.all
  cap : K.all.length ≤ k.ca
  room : k.ca ≤ (k.ys ++ k.sa).length
  nil : k.ga = none → k.ca = 0
  most : K.all.length ≤ 16384
  long : ∀ b ∈ K.all, b.length ≤ 16384
theorem BOk.bare {w : World} {m : Mw} {D : Dk} {W : Wl} {k : Mk} {K : Bk} {F : List Ent} (h : BOk w m D W k K F) : EOk w m D k K := by
  refine ⟨h.ok.d, h.all.less (fun b hb => ?_), h.cap, h.room, h.nil, h.most, h.long⟩
  unfold eRows at hb
  unfold bRows wRows
  rw [bl_append] at hb
  rw [bl_append, bl_append, bl_append]
  rcases List.mem_append.1 hb with h1 | h1
  · exact List.mem_append.2 (.inl (List.mem_append.2 (.inl (List.mem_append.2 (.inl h1)))))
  · exact List.mem_append.2 (.inl (List.mem_append.2 (.inr h1)))
theorem EOk.keep {w w' : World} {m m' : Mw} {D D' : Dk} {k : Mk} {K : Bk} {es2 : List Ent} (h : EOk w m D k K) (H : Hp w w' (bl (dRows m.gd m.gk m.gw m.cw m.sp D)) es2) (hd : DOk D' m'.gw m'.cw m'.sp) (hn : ∀ b ∈ bl (dRows m'.gd m'.gk m'.gw m'.cw m'.sp D'), b ∈ bl (dRows m.gd m.gk m.gw m.cw m.sp D) ∨ w.heap.size ≤ b) : EOk w' m' D' k K := by
  refine { h with d := hd, all := h.all.keep H (fun b hb => by unfold eRows; rw [bl_append]; exact List.mem_append.2 (.inl hb)) (fun b hb => ?_) }
  unfold eRows at hb ⊢
  rw [bl_append] at hb ⊢
  rcases List.mem_append.1 hb with h1 | h1
  · rcases hn b h1 with h2 | h2
    · exact .inl (List.mem_append.2 (.inl h2))
    · exact .inr h2
  · exact .inl (List.mem_append.2 (.inr h1))
theorem EOk.disk {w w' : World} {m : Mw} {D D' : Dk} {k : Mk} {K : Bk} (h : EOk w m D k K) (hp : DPost w w' (bl (dRows m.gd m.gk m.gw m.cw m.sp D)) m.gd m.gk D') : ∃ q : Mw, EOk w' (md m q) D' k K ∧ Hp w w' (bl (dRows m.gd m.gk m.gw m.cw m.sp D)) (dRows m.gd m.gk q.gw q.cw q.sp D') := by
  obtain ⟨gw, cw, sp, hd, H⟩ := hp
  exact ⟨{ m with gw := gw, cw := cw, sp := sp }, h.keep H hd (bl_place H), H⟩
theorem EOk.keep0 {w w' : World} {m : Mw} {D : Dk} {k : Mk} {K : Bk} {es : List Ent} (h : EOk w m D k K) (H : Hp w w' [] es) : EOk w' m D k K :=
  { h with all := h.all.keep H (fun _ hb => by cases hb) (fun _ hb => .inl hb) }
/-- Behind a call of the disk, in the log's frame. -/
theorem BOk.disk {w w' : World} {m : Mw} {D D' : Dk} {W : Wl} {k : Mk} {K : Bk} {F : List Ent} (h : BOk w m D W k K F) (hk : D'.kept.length = D.kept.length) (hp : DPost w w' (bl (dRows m.gd m.gk m.gw m.cw m.sp D)) m.gd m.gk D') : ∃ q : Mw, BOk w' (md m q) D' W k K F ∧ Hp w w' (bl (dRows m.gd m.gk m.gw m.cw m.sp D)) (dRows m.gd m.gk q.gw q.cw q.sp D') := by
  obtain ⟨gw, cw, sp, hd, H⟩ := hp
  have key : ∀ (F2 : List Ent) (xs : List Value) (bs : List Blk), Lsw w (bRows m D W k K ++ F2) xs bs → Lsw w' (bRows (md m { m with gw := gw, cw := cw, sp := sp }) D' W k K ++ F2) xs bs := by
    intro F2 xs bs hx
    have e1 : bRows m D W k K ++ F2 = dRows m.gd m.gk m.gw m.cw m.sp D ++ (lRows m W ++ (kRows m k K ++ F2)) := by
      unfold bRows wRows
      rw [List.append_assoc, List.append_assoc]
    have e2 : bRows (md m { m with gw := gw, cw := cw, sp := sp }) D' W k K ++ F2 = dRows m.gd m.gk gw cw sp D' ++ (lRows m W ++ (kRows m k K ++ F2)) := by
      unfold bRows wRows
      rw [List.append_assoc, List.append_assoc]
    rw [e1] at hx
    rw [e2]
    refine hx.keep H (fun b hb => by rw [bl_append]; exact List.mem_append.2 (.inl hb)) (fun b hb => ?_)
    rw [bl_append] at hb ⊢
    rcases List.mem_append.1 hb with h1 | h1
    · rcases bl_place H b h1 with h2 | h2
      · exact .inl (List.mem_append.2 (.inl h2))
      · exact .inr h2
    · exact .inl (List.mem_append.2 (.inr h1))
  have hr := key F _ _ h.recs
  refine ⟨{ m with gw := gw, cw := cw, sp := sp }, { h with ok := { h.ok with d := hd, lst := hr.less (fun b hb => ?_), size := by rw [hk]; exact h.ok.size, fin := by rw [hk]; exact h.ok.fin }, recs := hr, all := key F _ _ h.all }, H⟩
  rw [bl_append, bl_append]
  exact List.mem_append.2 (.inl (List.mem_append.2 (.inl hb)))
/-! ### Behind a fall -/
structure Fal (D : Dk) (n : Nat) (W : Wl) (s : Nat) : Prop where
  wait : D.wait = []
  size : D.kept.length = n
  lg : Lg D.show n W s
theorem show_kept {D : Dk} (h : D.wait = []) (i : Nat) : D.show i = D.kept.getD i [] := by unfold Dk.show; rw [h]; rfl
theorem Fal.like {D D' : Dk} {n : Nat} {W : Wl} {s : Nat} (h : Fal D n W s) (hk : D'.kept = D.kept) (hw : D'.wait = []) : Fal D' n W s := by
  have e : D'.show = D.show := funext fun i => by rw [show_kept hw, show_kept h.wait, hk]
  exact ⟨hw, by rw [hk]; exact h.size, by rw [e]; exact h.lg⟩
theorem Fal.start {D : Dk} {n : Nat} {W : Wl} {s : Nat} (h : Fal D n W s) : Fal D.start n W s ∧ D.start.down = false := by
  refine ⟨?_, start_up D⟩
  unfold Dk.start
  split
  · exact h.like rfl rfl
  · exact h
theorem Fal.arm {D : Dk} {n : Nat} {W : Wl} {s : Nat} (h : Fal D n W s) (hd : D.down = false) (x : Int) : Fal (D.arm x).1 n W s ∧ (D.arm x).1.down = false := by
  rw [arm_ok hd]
  exact ⟨h.like rfl h.wait, hd⟩
theorem Fal.crash {D : Dk} {n : Nat} {W : Wl} {s : Nat} (h : Fal D n W s) (keep : List Int) : Fal (D.crash keep) n W s := by
  refine h.like ?_ rfl
  show tears D.kept D.wait keep D.wait.length = D.kept
  rw [h.wait]
  rfl
/-- Blocks that were not written since are there. -/
theorem Fal.fall {D1 D : Dk} {n : Nat} {W : Wl} {s : Nat} (h : Fal D1 n W s) (hk : D.kept = D1.kept) (hf : Fresh1 n s (nbs W.recs) D.wait) (keep : List Int) : Fal (D.crash keep) n W s := by
  have hsz := h.lg.size
  have hnb := nbs_le W.recs
  have hrm := h.lg.room
  have key : ∀ i, (∀ p ∈ D.wait, p.1 ≠ i) → (D.crash keep).show i = D1.show i := by
    intro i hi
    rw [show_kept (D := D.crash keep) rfl, show_kept h.wait]
    show (tears D.kept D.wait keep D.wait.length).getD i [] = _
    rw [List.getD_eq_getElem?_getD, tears_none hi, hk, List.getD_eq_getElem?_getD]
  refine ⟨rfl, ?_, h.lg.same (key 0 ?_) (key 1 ?_) (fun y hy => key _ ?_)⟩
  · show (tears D.kept D.wait keep D.wait.length).length = n
    rw [tears_length, hk]; exact h.size
  · intro p hp he
    obtain ⟨y, _, _, h3⟩ := hf p hp
    omega
  · intro p hp he
    obtain ⟨y, _, _, h3⟩ := hf p hp
    omega
  · intro p hp he
    obtain ⟨z, h1, h2, h3⟩ := hf p hp
    have := mod_inj (s := s) (R := n - 2) (x := z) (y := y) h2 (by omega) (by omega)
    omega
/-- A disk that is armed, and a log on it. -/
structure Armd (w : World) (σ : Sx) (F : List Ent) (D1 : Dk) (W1 : Wl) (K1 : Bk) (n s c : Nat) : Prop where
  ok : BOk w σ.m σ.D σ.W σ.k σ.K F
  kept : σ.D.kept = D1.kept
  fresh : Fresh1 n s (nbs W1.recs) σ.D.wait
  wait : σ.D.wait.length ≤ 300 * c
  live : σ.D.down = false → Lg σ.D.show n σ.W s ∧ σ.W.dead = false ∧ Agr σ.W σ.K ∧ nbs W1.recs ≤ nbs σ.W.recs ∧ σ.W.turn = W1.turn ∧ σ.W.first = W1.first
  pre : σ.K.all.take K1.all.length = K1.all
  next : K1.all.length ≤ σ.K.all.length ∧ σ.K.all.length ≤ c
  safe : σ.K.safe = K1.safe
  first : σ.K.first = K1.first
theorem take_push {α : Type} {l l1 : List α} {b : α} (h : l.take l1.length = l1) (hl : l1.length ≤ l.length) : (l ++ [b]).take l1.length = l1 := by
  rw [List.take_append_of_le_length hl]; exact h
theorem Armd.app {w w' : World} {σ : Sx} {D1 : Dk} {W1 : Wl} {K1 : Bk} {n s c : Nat} {b : Blk} {D' : Dk} {W' : Wl} {K' : Bk} (h : Armd w σ [] D1 W1 K1 n s c) (hn : σ.D.kept.length = n) (hd : σ.D.down = false) (hab : AppB σ.D σ.W s b σ.K D' W' K') (hp : BPost w w' (bl σ.rows) σ.m D' W' σ.k K') :
    ∃ σ' : Sx, σ'.k.gb = σ.k.gb ∧ Armd w' σ' [] D1 W1 K1 n s (c + 1) ∧ Hp w w' (bl σ.rows) σ'.rows := by
  obtain ⟨hlg, hdead, hag, hnb, htu, hfi⟩ := h.live hd
  have hwt := h.wait
  have hnx := h.next
  obtain ⟨m', k', e1, _, _, hok, H⟩ := hp
  obtain ⟨x, hal, hk⟩ := hab
  refine ⟨⟨m', D', W', k', K'⟩, e1, ?_, H⟩
  have same : D' = σ.D → W' = σ.W → K' = σ.K → Armd w' ⟨m', D', W', k', K'⟩ [] D1 W1 K1 n s (c + 1) := by
    rintro rfl rfl rfl
    exact ⟨hok, h.kept, h.fresh, Nat.le_trans hwt (by omega), h.live, h.pre, ⟨hnx.1, Nat.le_trans hnx.2 (by omega)⟩, h.safe, h.first⟩
  rcases hal with ⟨a1, a2, a3, a4⟩ | ⟨a0, a1, a2, a3, a4⟩ | ⟨a1, a2, a3, ⟨xs, a4, a5, a6⟩, a7⟩
  · exact same a3 a4 (by rcases hk with ⟨_, hk⟩ | ⟨hk, _⟩; exact hk; omega)
  · exact same a3 a4 (by rcases hk with ⟨_, hk⟩ | ⟨hk, _⟩; exact hk; omega)
  · have hx : K' = σ.K.push b := by
      rcases hk with ⟨hk, _⟩ | ⟨_, hk⟩
      · rcases a7 with ⟨h1, _⟩ | ⟨h1, _⟩ <;> omega
      · exact hk
    have hfr : Fresh1 n s (nbs W1.recs) D'.wait := by
      intro p hp
      rw [a4] at hp
      rcases List.mem_append.1 hp with h1 | h1
      · exact h.fresh p h1
      · obtain ⟨y, b1, b2, b3⟩ := a6 p h1
        rw [hn] at b2 b3
        exact ⟨y, by omega, b2, b3⟩
    subst hx
    have e : (σ.K.push b).all.length = σ.K.all.length + 1 := by simp [Bk.push]
    refine ⟨hok, a3.trans h.kept, hfr, by show D'.wait.length ≤ _; rw [a4, List.length_append]; omega, ?_, take_push h.pre hnx.1, ⟨by show _ ≤ (σ.K.push b).all.length; omega, by show (σ.K.push b).all.length ≤ _; omega⟩, h.safe, h.first⟩
    intro hd2
    rcases a7 with ⟨_, b2, b3, b4, rfl⟩ | ⟨_, _, b2, _⟩
    · refine ⟨by rw [hn] at b2; exact b2, hdead, hag.push σ.D b, ?_, htu, hfi⟩
      show _ ≤ nbs (σ.W.recs ++ [b])
      rw [nbs_append]; omega
    · have hd2 : D'.down = false := hd2
      rw [b2] at hd2; cases hd2
theorem bl_swap {a b : List Ent} {x : Nat} (h : x ∈ bl (b ++ a)) : x ∈ bl ((a ++ b) ++ []) := by
  rw [List.append_nil, bl_append]
  rw [bl_append] at h
  exact List.mem_append.2 (List.mem_append.1 h).symm
/-- Opened behind a fall. -/
theorem openF_any (m : Mw) (D : Dk) (k : Mk) (K : Bk) (n s : Nat) (W : Wl) (w0 : World) (H0 : Hp w0 w0 (bl (dRows m.gd m.gk m.gw m.cw m.sp D)) (dRows m.gd m.gk m.gw m.cw m.sp D)) (h : EOk w0 m D k K) (hlt : ∀ b ∈ bl (kRows m k K), b < w0.heap.size) (hF : Fal D n W s) (hd : D.down = false) (ht : W.told = W.recs.length) (htu : W.turn ≤ 2 ^ 50) (hfi : W.first ≤ 2 ^ 50) :
    Does Try.prog 18 #[.pointer (some ⟨m.gd, 0, none⟩)] w0 (fun r w' => ∃ (q : Mw) (W' : Wl), r = .tuple #[.pointer (some ⟨q.gv, 0, none⟩), .int .i64 0] ∧ EOk w' (md m q) D k K ∧ BOk w' (mo m q) D W' k K [] ∧ Hp w0 w' (bl (dRows m.gd m.gk m.gw m.cw m.sp D)) (wRows (mo m q) D W') ∧ W'.recs = W.recs ∧ W'.first = W.first) := by
  have hlg : Lg D.show D.kept.length W s := by rw [hF.size]; exact hF.lg
  have hus := nbs_le W.recs
  have hrm := hlg.room
  have hsz := hlg.size
  have hmo := h.d.most
  obtain ⟨a1, a2, a3, a4, a5, a6, a7, a8⟩ := open_law hlg ht
  refine ((Rn.open_any m.gd m.gk m.gw m.cw m.sp D w0 H0 h.d hd hlg.size (by rw [hF.wait]; exact Nat.zero_le _) W.turn W.first s W.recs ?_ (by omega) (by omega) hlg.sl a2 (by omega) (by omega) hlg.long (by omega)).d (fun _ _ h => h)).mono ?_
  · rw [a1]
  · rintro r w' ⟨q, hr, e1, e2, _, hx, hok, H⟩
    obtain ⟨gd', gk', gw', cw', sp', gv', gr', cr', xs', sr', gp', cp', sq'⟩ := q
    simp only at e1 e2
    subst e1 e2
    refine ⟨⟨m.gd, m.gk, gw', cw', sp', gv', gr', cr', xs', sr', gp', cp', sq'⟩, _, hr, ?_, ?_, H, a4, a5⟩
    · exact h.keep H hok.d (fun b hb => bl_place H b (by rw [bl_append]; exact List.mem_append.2 (.inl hb)))
    · have hr2 := Lsw.frame (Lsw.nil w0 (kRows m k K)) hx hok.lst (F := kRows m k K) (fun b hb => ⟨hb, hlt b hb⟩)
      refine ⟨hok, by rw [List.append_nil]; exact hr2, ?_, h.cap, h.room, h.nil, h.most, h.long⟩
      rw [List.append_nil]
      refine h.all.keep H (fun b hb => by unfold eRows; rw [bl_append]; exact List.mem_append.2 (.inl hb)) (fun b hb => ?_)
      unfold bRows at hb
      rw [bl_append] at hb
      unfold eRows
      rw [bl_append]
      rcases List.mem_append.1 hb with h1 | h1
      · rcases bl_place H b h1 with h2 | h2
        · exact .inl (List.mem_append.2 (.inl h2))
        · exact .inr h2
      · exact .inl (List.mem_append.2 (.inr h1))
end Go.Proofs.Ytgkciibfpenjpaa
