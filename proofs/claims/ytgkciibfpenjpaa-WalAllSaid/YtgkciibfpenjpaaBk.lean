/-
  The book that the laws of a log keep beside it: how it lies in memory, and what a call of the log leaves of it.
-/
import Derived.Test.YtgkciibfpenjpaaLg
namespace Go.Proofs.Ytgkciibfpenjpaa
open Go Go.RowKit
structure Bk where
  all : List Blk
  safe : Nat
  first : Nat
  cut : Int
  made : Nat
structure Mk where
  gb : Nat
  ga : Option Nat
  ca : Nat
  ys : List Value
  sa : List Value
@[reducible] def bcl (m : Mw) (k : Mk) (K : Bk) : List Value := [.pointer (some ⟨m.gd, 0, none⟩), .pointer (some ⟨m.gv, 0, none⟩), .slice (hd k.ga) K.all.length k.ca, .int .i64 (K.all.length : Int), .int .i64 (K.safe : Int), .int .i64 (K.first : Int), .int .i64 K.cut, .int .i64 (K.made : Int)]
@[reducible] def kRows (m : Mw) (k : Mk) (K : Bk) : List Ent := [(some k.gb, 31, bcl m k K), (k.ga, 34, k.ys ++ k.sa)]
@[reducible] def bRows (m : Mw) (D : Dk) (W : Wl) (k : Mk) (K : Bk) : List Ent := wRows m D W ++ kRows m k K
structure BOk (w : World) (m : Mw) (D : Dk) (W : Wl) (k : Mk) (K : Bk) (F : List Ent) : Prop where
  ok : WOk w m D W
  recs : Lsw w (bRows m D W k K ++ F) m.xs W.recs
  all : Lsw w (bRows m D W k K ++ F) k.ys K.all
  cap : K.all.length ≤ k.ca
  room : k.ca ≤ (k.ys ++ k.sa).length
  nil : k.ga = none → k.ca = 0
  most : K.all.length ≤ 16384
  long : ∀ b ∈ K.all, b.length ≤ 16384
theorem bl_append (a b : List Ent) : bl (a ++ b) = bl a ++ bl b := by unfold bl; rw [List.filterMap_append]
theorem BOk.keepF {w w' : World} {m : Mw} {D : Dk} {W : Wl} {k : Mk} {K : Bk} {F F' es2 : List Ent} {S : List Nat} (h : BOk w m D W k K F) (H : Hp w w' S es2) (hS : ∀ b ∈ S, b ∈ bl (bRows m D W k K ++ F)) (hn : ∀ b ∈ bl F', b ∈ bl (bRows m D W k K ++ F) ∨ w.heap.size ≤ b) : BOk w' m D W k K F' := by
  have hm : ∀ b ∈ bl (bRows m D W k K ++ F'), b ∈ bl (bRows m D W k K ++ F) ∨ w.heap.size ≤ b := by
    intro b hb
    rw [bl_append] at hb
    rcases List.mem_append.1 hb with h1 | h1
    · exact .inl (by rw [bl_append]; exact List.mem_append.2 (.inl h1))
    · exact hn b h1
  have hr : Lsw w' (bRows m D W k K ++ F') m.xs W.recs := h.recs.keep H hS hm
  exact { h with ok := { h.ok with lst := hr.less (fun b hb => by rw [bl_append, bl_append]; exact List.mem_append.2 (.inl (List.mem_append.2 (.inl hb)))) }, recs := hr, all := h.all.keep H hS hm }
theorem BOk.keep {w w' : World} {m : Mw} {D : Dk} {W : Wl} {k : Mk} {K : Bk} {F es2 : List Ent} {S : List Nat} (h : BOk w m D W k K F) (H : Hp w w' S es2) (hS : ∀ b ∈ S, b ∈ bl (bRows m D W k K ++ F)) : BOk w' m D W k K F :=
  h.keepF H hS (fun b hb => .inl (by rw [bl_append]; exact List.mem_append.2 (.inr hb)))
theorem BOk.keep0 {w w' : World} {m : Mw} {D : Dk} {W : Wl} {k : Mk} {K : Bk} {F es2 : List Ent} (h : BOk w m D W k K F) (H : Hp w w' [] es2) : BOk w' m D W k K F := h.keep H (fun _ hb => by cases hb)
/-- Beside new rows. -/
theorem BOk.move {w w' : World} {m : Mw} {D : Dk} {W : Wl} {k : Mk} {K : Bk} {F F' es : List Ent} (h : BOk w m D W k K F) (H : Hp w w' (bl (bRows m D W k K ++ F)) es) (is : List Nat) (e : F' = is.map fun i => es.getD i (none, 0, [])) : BOk w' m D W k K F' := by
  refine h.keepF H (fun _ hb => hb) (fun b hb => ?_)
  rw [e] at hb
  exact bl_place H b (bl_pick H b hb)
theorem BOk.less {w : World} {m : Mw} {D : Dk} {W : Wl} {k : Mk} {K : Bk} {F : List Ent} (h : BOk w m D W k K F) : BOk w m D W k K [] := h.keepF (Hp.refl w) (fun _ hb => by cases hb) (fun _ hb => by cases hb)
/-- Elsewhere, but for what never moves. -/
@[reducible] def mv (m q : Mw) : Mw := { q with gd := m.gd, gk := m.gk, gv := m.gv }
/-- A call of the log. -/
theorem BOk.call {w w' : World} {m : Mw} {D D' : Dk} {W W' : Wl} {k : Mk} {K : Bk} {F : List Ent} (h : BOk w m D W k K F) (hF : ∀ b ∈ bl (kRows m k K ++ F), b < w.heap.size) (hp : WPost w w' (bl (wRows m D W)) m D' W') :
    ∃ q : Mw, XsOk w m.xs q.xs ∧ BOk w' (mv m q) D' W' k K F ∧ Hp w w' (bl (wRows m D W)) (wRows (mv m q) D' W') := by
  obtain ⟨m', e1, e2, e3, e4, hok, H⟩ := hp
  obtain ⟨gd', gk', gw', cw', sp', gv', gr', cr', xs', sr', gp', cp', sq'⟩ := m'
  simp only at e1 e2 e3
  subst e1 e2 e3
  have hsub : ∀ b ∈ bl (wRows m D W), b ∈ bl (bRows m D W k K ++ F) := fun b hb => by rw [bl_append, bl_append]; exact List.mem_append.2 (.inl (List.mem_append.2 (.inl hb)))
  have hr := Lsw.frame (F := kRows m k K ++ F) h.recs e4 hok.lst (fun b hb => ⟨by rw [List.append_assoc, bl_append]; exact List.mem_append.2 (.inr hb), hF b hb⟩)
  rw [← List.append_assoc] at hr
  refine ⟨_, e4, { h with ok := hok, recs := hr, all := h.all.keep H hsub (fun b hb => ?_) }, H⟩
  rw [List.append_assoc, bl_append] at hb
  rcases List.mem_append.1 hb with h1 | h1
  · rcases bl_place H b h1 with h2 | h2
    · exact .inl (hsub b h2)
    · exact .inr h2
  · exact .inl (by rw [List.append_assoc, bl_append]; exact List.mem_append.2 (.inr h1))
/-- The log and its book stand there. -/
def BPost (w0 w' : World) (S : List Nat) (m : Mw) (D : Dk) (W : Wl) (k : Mk) (K : Bk) : Prop := ∃ (m' : Mw) (k' : Mk), k'.gb = k.gb ∧ XsOk w0 m.xs m'.xs ∧ XsOk w0 k.ys k'.ys ∧ BOk w' m' D W k' K [] ∧ Hp w0 w' S (bRows m' D W k' K)
theorem BPost.here {w0 w : World} {S : List Nat} {es : List Ent} {m : Mw} {D : Dk} {W : Wl} {k : Mk} {K : Bk} (h : BOk w m D W k K []) (H : Hp w0 w S es) (is : List Nat) (hnd : is.Nodup) (e : bRows m D W k K = is.map fun i => es.getD i (none, 0, [])) : BPost w0 w S m D W k K := ⟨m, k, rfl, XsOk.refl _ _, XsOk.refl _ _, h, by rw [e]; exact H.pick is hnd⟩
/-- Beside a caller's rows. -/
theorem BPost.more {w w' : World} {m : Mw} {D D' : Dk} {W W' : Wl} {k : Mk} {K K' : Bk} {F : List Ent} (hp : BPost w w' (bl (bRows m D W k K)) m D' W' k K') (h : BOk w m D W k K F) (hF : ∀ b ∈ bl F, b < w.heap.size) :
    ∃ (m' : Mw) (k' : Mk), k'.gb = k.gb ∧ BOk w' m' D' W' k' K' F ∧ Hp w w' (bl (bRows m D W k K)) (bRows m' D' W' k' K') := by
  obtain ⟨m', k', e1, e2, e3, hok, H⟩ := hp
  have hF2 : ∀ b ∈ bl F, b ∈ bl (bRows m D W k K ++ F) ∧ b < w.heap.size := fun b hb => ⟨by rw [bl_append]; exact List.mem_append.2 (.inr hb), hF b hb⟩
  have hr := Lsw.frame h.recs e2 hok.recs hF2
  have ha := Lsw.frame h.all e3 hok.all hF2
  rw [List.append_nil] at hr ha
  exact ⟨m', k', e1, { hok with recs := hr, all := ha }, H⟩
theorem lt_here {w0 w : World} {S : List Nat} {es : List Ent} (H : Hp w0 w S es) : ∀ b ∈ bl es, b < w.heap.size := by
  intro b hb
  obtain ⟨arr, T, z, hc⟩ := bl_cells H b hb
  exact (Array.getElem?_eq_some_iff.1 hc).1
theorem lt_pick {w0 w : World} {S : List Nat} {es F : List Ent} (H : Hp w0 w S es) (is : List Nat) (e : F = is.map fun i => es.getD i (none, 0, [])) : ∀ b ∈ bl F, b < w.heap.size := by
  intro b hb
  rw [e] at hb
  exact lt_here H b (bl_pick H b hb)
/-- What was handed out reads as these records. -/
theorem Ownw.lsw {z : Nat} {w : World} {ys : List Value} {bs : List Blk} (h : Ownw z w ys bs) : Lsw w [] ys bs := by
  refine ⟨h.len, fun i hi => ?_⟩
  obtain ⟨g, cap, sp, h1, h2, h3, h4, h5⟩ := h.own i hi
  refine ⟨hd g, cap, h1, ?_, fun _ p _ hb => by cases hb⟩
  cases g with
  | none =>
    have := h4 rfl
    refine ⟨u8s_length1 _, fun a ha => (by cases ha), fun _ => by omega⟩
  | some gx =>
    refine ⟨u8s_length1 _, fun a ha j u hu => ?_, fun hx => (by cases hx)⟩
    simp only [hd, Option.map_some, Option.some.injEq] at ha
    subst ha
    rw [Addr.add_lit]
    have hlt := (List.getElem?_eq_some_iff.1 hu).1
    simp [World.cell?, (h5 gx rfl).1, List.getElem?_append_left hlt, hu]
theorem Lsw.to0 {w w' : World} {es : List Ent} {xs : List Value} {bs : List Blk} (h : Lsw w [] xs bs) (H : Hp w w' [] es) : Lsw w' [] xs bs := h.keep H (fun _ hb => by cases hb) (fun _ hb => by cases hb)
theorem Lsw.bare {w : World} {es : List Ent} {xs : List Value} {bs : List Blk} (h : Lsw w es xs bs) : Lsw w [] xs bs := h.less (fun _ hb => by cases hb)
theorem rows0 {w0 w : World} {S : List Nat} {es es' : List Ent} (H0 : Hp w0 w0 S es) (H : Hp w0 w [] es') : Hp w0 w S es := H0.past H.noRows (fun _ hx => by cases hx) (fun _ _ hx => by cases hx)
theorem own_some {w0 w : World} {S : List Nat} {es : List Ent} {i : Nat} {g : Option Nat} {T : TypeId} {cs : List Value} (H : Hp w0 w S es) (he : es[i]? = some (g, T, cs)) (h : 0 < cs.length) : ∃ k, g = some k := by
  cases g with
  | some k => exact ⟨k, rfl⟩
  | none =>
    have h1 := H.ent i _ he
    change cs = [] at h1
    subst h1
    cases h
/-- The log has just what its book tells. -/
structure Agr (W : Wl) (K : Bk) : Prop where
  first : K.first = W.first
  next : K.all.length = W.first + W.recs.length
  recs : W.recs = K.all.drop W.first
def Bk.push (K : Bk) (b : Blk) : Bk := { K with all := K.all ++ [b] }
def Mk.push (k : Mk) (g : Option Nat) (c : Nat) (s : List Value) (g9 : Option Nat) (n c9 : Nat) : Mk := { k with ga := g, ca := c, ys := k.ys ++ [Value.slice (hd g9) n c9], sa := s }
theorem BOk.push {wL w : World} {m : Mw} {D : Dk} {W : Wl} {k : Mk} {K : Bk} {F es : List Ent} (h : BOk wL m D W k K F) (H : Hp wL w (bl (bRows m D W k K ++ F)) es) {g g9 : Option Nat} {c c9 : Nat} {s : List Value} {b : Blk} (hsub : ∀ x ∈ bl (bRows m D W (k.push g c s g9 b.length c9) (K.push b)), x ∈ bl es) (hr : Rd w (hd g9) b.length 1 (u8s b)) (ha : ∀ p, hd g9 = some p → p.block ∉ bl (bRows m D W (k.push g c s g9 b.length c9) (K.push b)))
    (hm : K.all.length + 1 ≤ c) (hc : c ≤ ((k.ys ++ [Value.slice (hd g9) b.length c9]) ++ s).length) (hn : g = none → c = 0) (hb : b.length ≤ 16384) (hl : K.all.length < 16384) : BOk w m D W (k.push g c s g9 b.length c9) (K.push b) [] := by
  have e0 : ∀ es1 : List Ent, es1 ++ [] = es1 := fun es1 => List.append_nil _
  have hr1 : Lsw w (bRows m D W (k.push g c s g9 b.length c9) (K.push b) ++ []) m.xs W.recs := (h.recs.to H).less (fun x hx => hsub x (by rwa [e0] at hx))
  refine ⟨{ h.ok with lst := hr1.less (fun x hx => by rw [bl_append, bl_append]; exact List.mem_append.2 (.inl (List.mem_append.2 (.inl hx)))) }, hr1, ?_, ?_, hc, hn, ?_, ?_⟩
  · exact Lsw.snoc ((h.all.to H).less (fun x hx => hsub x (by rwa [e0] at hx))) hr (fun _ p hp hx => ha p hp (by rwa [e0] at hx))
  · show (K.all ++ [b]).length ≤ c
    rw [List.length_append]; exact hm
  · show (K.all ++ [b]).length ≤ 16384
    rw [List.length_append]; exact hl
  · intro x hx
    rcases List.mem_append.1 hx with h1 | h1
    · exact h.long x h1
    · rw [List.mem_singleton.1 h1]; exact hb
theorem Agr.push {W : Wl} {K : Bk} (h : Agr W K) (D : Dk) (b : Blk) : Agr (W.took D b) (K.push b) := by
  have h1 := h.next
  refine ⟨h.first, ?_, ?_⟩
  · show (K.all ++ [b]).length = W.first + (W.recs ++ [b]).length
    simp only [List.length_append]; omega
  · show W.recs ++ [b] = (K.all ++ [b]).drop W.first
    rw [List.drop_append_of_le_length (by omega), h.recs]
/-- A call of the book's, told from the beginning on. -/
theorem BPost.of {w0 w w' : World} {S : List Nat} {m0 m : Mw} {D D' : Dk} {W W' : Wl} {k0 k : Mk} {K K' : Bk} (H : Hp w0 w S (bRows m D W k K)) (hx : XsOk w0 m0.xs m.xs) (hy : XsOk w0 k0.ys k.ys) (hg : k.gb = k0.gb) (hp : BPost w w' (bl (bRows m D W k K)) m D' W' k K') : BPost w0 w' S m0 D' W' k0 K' := by
  obtain ⟨m', k', e1, e2, e3, hok, H'⟩ := hp
  exact ⟨m', k', e1.trans hg, hx.trans e2 H.size, hy.trans e3 H.size, hok, (H.callr [0, 1, 2, 3, 4, 5, 6, 7] rfl H').right⟩
/-- How book.append may end. -/
def AppB (D : Dk) (W : Wl) (s : Nat) (b : Blk) (K : Bk) (D' : Dk) (W' : Wl) (K' : Bk) : Prop := ∃ x, AppL D W s b x D' W' ∧ (((x = 22 ∨ x = 3) ∧ K' = K) ∨ ((x = 0 ∨ x = 40) ∧ K' = K.push b))
theorem app_0 {D : Dk} {W : Wl} {s : Nat} {b : Blk} {x : Int} {D' : Dk} {W' : Wl} (h : AppL D W s b x D' W') (hx : x = 0) : b.length ≤ 16384 ∧ Lg D'.show D.kept.length W' s ∧ D'.down = false ∧ (D.armed = 0 → D'.armed = 0) ∧ W' = W.took D b := by
  rcases h with ⟨_, h1, _⟩ | ⟨_, _, h1, _⟩ | ⟨h1, _, _, _, ⟨_, h2, h3, h4, h5⟩ | ⟨h2, _⟩⟩
  · omega
  · omega
  · exact ⟨h1, h2, h3, h4, h5⟩
  · omega
theorem app_40 {D : Dk} {W : Wl} {s : Nat} {b : Blk} {x : Int} {D' : Dk} {W' : Wl} (h : AppL D W s b x D' W') (hx : x = 40) : b.length ≤ 16384 ∧ D'.down = true ∧ W' = { W with dead := true } ∧ D'.wait.length ≤ D.wait.length + 300 := by
  rcases h with ⟨_, h1, _⟩ | ⟨_, _, h1, _⟩ | ⟨h1, _, _, ⟨xs, hw, hl, _⟩, ⟨h2, _⟩ | ⟨_, _, h2, h3⟩⟩
  · omega
  · omega
  · omega
  · exact ⟨h1, h2, h3, by rw [hw, List.length_append]; omega⟩
theorem app_22 {D : Dk} {W : Wl} {s : Nat} {b : Blk} {x : Int} {D' : Dk} {W' : Wl} (h : AppL D W s b x D' W') (hx : x = 22) : 16384 < b.length ∧ D' = D ∧ W' = W := by
  rcases h with ⟨h1, _, h2, h3⟩ | ⟨_, _, h1, _⟩ | ⟨h1, _, _, _, ⟨h2, _⟩ | ⟨h2, _⟩⟩
  · exact ⟨h1, h2, h3⟩
  · omega
  · omega
  · omega
theorem app_3 {D : Dk} {W : Wl} {s : Nat} {b : Blk} {x : Int} {D' : Dk} {W' : Wl} (h : AppL D W s b x D' W') (h0 : x ≠ 0) (h40 : x ≠ 40) (h22 : x ≠ 22) : x = 3 ∧ D' = D ∧ W' = W := by
  rcases h with ⟨_, h1, _⟩ | ⟨_, _, h1, h2, h3⟩ | ⟨_, _, _, _, ⟨h2, _⟩ | ⟨h2, _⟩⟩
  · omega
  · exact ⟨h1, h2, h3⟩
  · omega
  · omega
theorem Rd.part {w : World} {A : Option Addr} {n c : Nat} {xs : List Value} (h : Rd w A n 1 xs) {i j : Nat} (hi : i ≤ j) (hj : j ≤ n) (hc : n ≤ c) : Rd w (cutAddr A i c 1) (j - i) 1 ((xs.drop i).take (j - i)) := by
  have := h.cut i j c hi hj (by omega)
  unfold cutAddr
  simp only [Nat.mul_one] at this ⊢
  exact this
end Go.Proofs.Ytgkciibfpenjpaa
