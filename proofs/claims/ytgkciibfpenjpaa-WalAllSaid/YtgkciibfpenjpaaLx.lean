/-
  A log is opened anew, beside its book.
-/
import Derived.Test.YtgkciibfpenjpaaLw
namespace Go.Proofs.Ytgkciibfpenjpaa
open Go Go.RowKit
/-- Another log over the same disk. -/
@[reducible] def mo (m q : Mw) : Mw := { q with gd := m.gd, gk := m.gk }
theorem BOk.open {w w' : World} {m q : Mw} {D : Dk} {W W' : Wl} {k : Mk} {K : Bk} {F : List Ent} (h : BOk w m D W k K F) (hF : ∀ b ∈ bl (kRows m k K ++ F), b < w.heap.size) (hok : WOk w' (mo m q) D W') (hx : XsOk w [] q.xs) (H : Hp w w' (bl (dRows m.gd m.gk m.gw m.cw m.sp D)) (wRows (mo m q) D W')) : BOk w' (mo m q) D W' k K F := by
  have e : bRows (mo m q) D W' k K ++ F = wRows (mo m q) D W' ++ (kRows (mo m q) k K ++ F) := List.append_assoc ..
  have hk : bl (kRows (mo m q) k K ++ F) = bl (kRows m k K ++ F) := rfl
  have hsub : ∀ b ∈ bl (dRows m.gd m.gk m.gw m.cw m.sp D), b ∈ bl (bRows m D W k K ++ F) := by
    intro b hb
    have e2 : bRows m D W k K ++ F = dRows m.gd m.gk m.gw m.cw m.sp D ++ (lRows m W ++ (kRows m k K ++ F)) := by
      unfold bRows wRows
      rw [List.append_assoc, List.append_assoc]
    rw [e2, bl_append]
    exact List.mem_append.2 (.inl hb)
  have hr : Lsw w' (bRows (mo m q) D W' k K ++ F) (mo m q).xs W'.recs := by
    rw [e]
    refine Lsw.frame (Lsw.nil w (kRows m k K ++ F)) hx hok.lst (F := kRows (mo m q) k K ++ F) (fun b hb => ?_)
    rw [hk] at hb
    exact ⟨hb, hF b hb⟩
  refine { h with ok := hok, recs := hr, all := h.all.keep H hsub (fun b hb => ?_) }
  rw [e, bl_append] at hb
  rcases List.mem_append.1 hb with h1 | h1
  · rcases bl_place H b h1 with h2 | h2
    · exact .inl (hsub b h2)
    · exact .inr h2
  · rw [hk] at h1
    exact .inl (by unfold bRows; rw [List.append_assoc, bl_append]; exact List.mem_append.2 (.inr h1))
theorem liveOpen_any (σ : Sx) (n c : Nat) (F : List Ent) (w0 : World) (H0 : Hp w0 w0 (bl (dRows σ.m.gd σ.m.gk σ.m.gw σ.m.cw σ.m.sp σ.D)) (dRows σ.m.gd σ.m.gk σ.m.gw σ.m.cw σ.m.sp σ.D)) (h : Live w0 σ F n c) (hF : ∀ b ∈ bl (kRows σ.m σ.k σ.K ++ F), b < w0.heap.size) (ht : σ.W.told = σ.W.recs.length) (hc : c ≤ 5000) :
    Does Try.prog 18 #[.pointer (some ⟨σ.m.gd, 0, none⟩)] w0 (fun r w' => ∃ (q : Mw) (W' : Wl), r = .tuple #[.pointer (some ⟨q.gv, 0, none⟩), .int .i64 0] ∧ Live w' ⟨mo σ.m q, σ.D, W', σ.k, σ.K⟩ F n c ∧ Hp w0 w' (bl (dRows σ.m.gd σ.m.gk σ.m.gw σ.m.cw σ.m.sp σ.D)) (wRows (mo σ.m q) σ.D W') ∧ W'.recs = σ.W.recs ∧ W'.first = σ.W.first ∧ W'.told = W'.recs.length ∧ w0.heap.size ≤ q.gv) := by
  obtain ⟨s, hlg⟩ := h.lg
  have h1 := h.wait
  have h2 := h.turn
  have h3 := h.first
  have hus := nbs_le σ.W.recs
  have hrm := hlg.room
  have hsz := hlg.size
  have hmo := h.ok.ok.d.most
  obtain ⟨a1, a2, a3, a4, a5, a6, a7, a8⟩ := open_law hlg ht
  refine ((Rn.open_any σ.m.gd σ.m.gk σ.m.gw σ.m.cw σ.m.sp σ.D w0 H0 h.ok.ok.d h.up hlg.size (by omega) σ.W.turn σ.W.first s σ.W.recs ?_ (by omega) (by omega) hlg.sl a2 (by omega) (by omega) hlg.long (by omega)).d (fun _ _ h => h)).mono ?_
  · rw [a1]
  · rintro r w' ⟨m, hr, e1, e2, e3, e4, hok, H⟩
    obtain ⟨gd', gk', gw', cw', sp', gv', gr', cr', xs', sr', gp', cp', sq'⟩ := m
    simp only at e1 e2
    subst e1 e2
    refine ⟨⟨σ.m.gd, σ.m.gk, gw', cw', sp', gv', gr', cr', xs', sr', gp', cp', sq'⟩, _, hr, ⟨h.ok.open hF hok e4 H, ⟨s, a3⟩, h.up, h.arm, a8, h.size, h.wait, ?_, h.next, ?_⟩, H, a4, a5, ?_, e3⟩
    · show (Wl.found _ _ _).turn ≤ c
      rw [a6]; exact h.turn
    · show (Wl.found _ _ _).first ≤ c
      rw [a5]; exact h.first
    · exact a7.trans (congrArg List.length a4).symm
/-- Rows of the disk alone turned. -/
theorem Hp.front3 {w0 w w' : World} {S : List Nat} {a b d R a2 : List Ent} (H : Hp w0 w S (((a ++ b) ++ d) ++ R)) (H' : Hp w w' (bl a) a2) : Hp w0 w' S (a2 ++ (b ++ (d ++ R))) := by
  rw [List.append_assoc, List.append_assoc] at H
  exact H.front H'
end Go.Proofs.Ytgkciibfpenjpaa
