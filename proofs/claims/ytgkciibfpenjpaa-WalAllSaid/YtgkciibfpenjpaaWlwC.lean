/- Walks of layer 2, printed by wip/gen/codec.py. -/
import Derived.Test.YtgkciibfpenjpaaNrm
import Derived.Test.YtgkciibfpenjpaaWlwB
namespace Go.Proofs.Ytgkciibfpenjpaa
open Go Go.RowKit
set_option linter.unusedVariables false
attribute [local irreducible] Still Ops Does Cd
set_option maxRecDepth 100000 in
set_option maxHeartbeats 4000000 in
theorem fallen_any (m : Mw) (D : Dk) (W : Wl) (k : Mk) (K : Bk) (w0 : World) (H0 : Hp w0 w0 (bl (bRows m D W k K)) (bRows m D W k K)) (h : BOk w0 m D W k K []) (hx : W.dead = true) (hdn : D.down = true) (hwt : D.wait.length ≤ 1000000000) (hfl : W.first ≤ 2 ^ 50) (htl : W.turn ≤ 2 ^ 50) :
    Does Try.prog 47 #[.pointer (some ⟨k.gb, 0, none⟩)] w0 (fun r w' => r = .bool true ∧ BPost w0 w' (bl (bRows m D W k K)) m D W k K) := by
  refine does_of Try.func47 Try.ntmps47 rfl ?_
  refine nR38 ?_
  have H := H0
  have hbk := h
  have hxs : XsOk w0 m.xs m.xs := XsOk.refl _ _
  refine run_seq ?_
  refine run_region ?_
  refine ops_val (ex_assign rfl) ?_
  refine ops_nil ?_
  refine nR38 ?_
  refine run_seq ?_
  refine run_mixZ 35 [(true, 0), (true, 1), (true, 2), (true, 3), (false, 4), (true, 5), (true, 6), (true, 7), (true, 8), (true, 9), (false, 10), (false, 11), (true, 12), (true, 13), (true, 14), (true, 15), (true, 16), (true, 17), (true, 18), (false, 19), (true, 20), (true, 21), (true, 22), (true, 23), (true, 24), (true, 25), (true, 26), (true, 27), (true, 28), (true, 29), (true, 30), (false, 31), (false, 32), (true, 33), (true, 34), (false, 35)] H [6] mixed (by decide) (by kernel_rfl) ?_
  rintro w1 hw1
  have H1 := Hp.drew H; rw [← hw1] at H1
  refine mixz_p rfl ?_
  refine mix1_val (fun wz hz => ex_move rfl) ?_
  refine mixz_p rfl ?_
  refine mix1_val (fun wz hz => ex_nilCheck rfl) ?_
  refine mixz_p rfl ?_
  refine mix1_val (fun wz hz => ex_fieldAddr fl31_0 rfl) ?_
  refine mixz_p rfl ?_
  refine mix1_val (fun wz hz => ex_load ty27 rfl (hz.cell (i := 0) rfl rfl)) ?_
  refine nZ38 ?_
  refine mixz_o rfl ?_
  refine ops_call_eq (ex_call gf27 rfl) (down_p m.gd true _ (by have hz := H1.cell (i := 0) (o := 2) (v := .bool D.down) rfl rfl; rw [hdn] at hz; exact hz)) ?_
  refine ops_nil ?_
  refine ⟨fun hne => H1.pick [6] (by decide), ?_⟩
  refine nZ38 ?_
  refine mixz_p rfl ?_
  refine mix1_val (fun wz hz => ex_move rfl) ?_
  refine mixz_p rfl ?_
  refine mix1_yes rfl ?_
  refine mix1_val (fun wz hz => ex_move rfl) ?_
  refine mixz_p rfl ?_
  refine mix1_yes rfl ?_
  refine mix1_val (fun wz hz => ex_nilCheck rfl) ?_
  refine mixz_p rfl ?_
  refine mix1_yes rfl ?_
  refine mix1_val (fun wz hz => ex_fieldAddr fl31_1 rfl) ?_
  refine nZ38 ?_
  refine mixz_p rfl ?_
  refine mix1_yes rfl ?_
  refine mix1_val (fun wz hz => ex_load ty28 rfl (hz.cell (i := 0) rfl rfl)) ?_
  refine mixz_o rfl ?_
  refine ops_yes rfl ?_
  refine ops_buildSlice Try.underlying34 ty5 H1 (cs := [.int .u8 1]) rfl (by decide) rfl ?_
  intro w2 g13 H2 hg13
  replace hbk : BOk w2 m D W k K [((some g13, 5, [.int .u8 1]) : Ent)] := hbk.move H2 [8] rfl
  refine ops_nil ?_
  refine ⟨fun hne => H2.pick [6] (by decide), ?_⟩
  refine nZ38 ?_
  refine mixz_o rfl ?_
  refine ops_yes rfl ?_
  refine ops_call (ex_call gf11 rfl) (append_any m D W _ (H2.pick [0, 1, 2, 3, 4, 5] (by decide)).here hbk.ok (hd (some g13)) [1] 1 (H2.rd (i := 8) (xs := [.int .u8 1]) (sp := []) rfl rfl (by decide)) (fun _ p hp hx => by simp only [hd, Option.map_some, Option.some.injEq] at hp; subst hp; exact row_not H2 (i := 8) rfl (is := [0, 1, 2, 3, 4, 5]) (by decide) hx) (by decide) hwt) ?_
  rintro r w3 ⟨x, D', W', hr, hres, hwp⟩
  rw [hr]
  obtain ⟨hx1, hx2, hx3⟩ := app_gone hres hx (by decide)
  subst hx1
  rw [hx2, hx3] at hwp
  obtain ⟨q1, hxsq1, hbk2, Hc⟩ := hbk.call (lt_pick H2 [6, 7, 8] rfl) hwp
  replace hxs : XsOk w0 m.xs (mv m q1).xs := hxs.trans hxsq1 H2.size
  replace hbk : BOk w3 (mv m q1) D W k K [((some g13, 5, [.int .u8 1]) : Ent)] := hbk2
  have H3 : Hp w0 w3 (bl (bRows m D W k K)) (bRows (mv m q1) D W k K ++ [((some g13, 5, [.int .u8 1]) : Ent)]) := (H2.callr [0, 1, 2, 3, 4, 5] rfl Hc).pick [9, 10, 11, 12, 13, 14, 6, 7, 8] (by decide)
  refine ops_nil ?_
  refine ⟨fun hne => H3.pick [6] (by decide), ?_⟩
  refine nZ38 ?_
  refine mixz_p rfl ?_
  refine mix1_yes rfl ?_
  refine mix1_true (fun wz hz => ex_eql rfl rfl) (rfl) ?_
  refine mixz_p rfl ?_
  refine mix1_val (fun wz hz => ex_pick_t rfl rfl) ?_
  refine mixz_p rfl ?_
  refine mix1_val (fun wz hz => ex_move rfl) ?_
  refine mixz_p rfl ?_
  refine mix1_yes rfl ?_
  refine mix1_val (fun wz hz => ex_move rfl) ?_
  refine nZ38 ?_
  refine mixz_p rfl ?_
  refine mix1_yes rfl ?_
  refine mix1_val (fun wz hz => ex_nilCheck rfl) ?_
  refine mixz_p rfl ?_
  refine mix1_yes rfl ?_
  refine mix1_val (fun wz hz => ex_fieldAddr fl31_1 rfl) ?_
  refine mixz_p rfl ?_
  refine mix1_yes rfl ?_
  refine mix1_val (fun wz hz => ex_load ty28 rfl (hz.cell (i := 0) rfl rfl)) ?_
  refine mixz_o rfl ?_
  refine ops_yes rfl ?_
  refine ops_call (ex_call gf16 rfl) (sync_all (mv m q1) D W _ (H3.pick [0, 1, 2, 3, 4, 5] (by decide)).here hbk.ok hwt hfl htl) ?_
  rintro r w4 ⟨x, D', W', hr, hres, hwp⟩
  rw [hr]
  obtain ⟨hx1, hx2, hx3⟩ := sc_gone hres hx
  subst hx1
  rw [hx2, hx3] at hwp
  obtain ⟨q2, hxsq2, hbk2, Hc⟩ := hbk.call (lt_pick H3 [6, 7, 8] rfl) hwp
  replace hxs : XsOk w0 m.xs (mv m q2).xs := hxs.trans hxsq2 H3.size
  replace hbk : BOk w4 (mv m q2) D W k K [((some g13, 5, [.int .u8 1]) : Ent)] := hbk2
  have H4 : Hp w0 w4 (bl (bRows m D W k K)) (bRows (mv m q2) D W k K ++ [((some g13, 5, [.int .u8 1]) : Ent)]) := (H3.callr [0, 1, 2, 3, 4, 5] rfl Hc).pick [9, 10, 11, 12, 13, 14, 6, 7, 8] (by decide)
  refine ops_nil ?_
  refine ⟨fun hne => H4.pick [6] (by decide), ?_⟩
  refine nZ38 ?_
  refine mixz_p rfl ?_
  refine mix1_yes rfl ?_
  refine mix1_true (fun wz hz => ex_eql rfl rfl) (rfl) ?_
  refine mixz_p rfl ?_
  refine mix1_val (fun wz hz => ex_pick_t rfl rfl) ?_
  refine mixz_p rfl ?_
  refine mix1_val (fun wz hz => ex_move rfl) ?_
  refine mixz_p rfl ?_
  refine mix1_yes rfl ?_
  refine mix1_val (fun wz hz => ex_move rfl) ?_
  refine nZ38 ?_
  refine mixz_p rfl ?_
  refine mix1_yes rfl ?_
  refine mix1_val (fun wz hz => ex_nilCheck rfl) ?_
  refine mixz_p rfl ?_
  refine mix1_yes rfl ?_
  refine mix1_val (fun wz hz => ex_fieldAddr fl31_1 rfl) ?_
  refine mixz_p rfl ?_
  refine mix1_yes rfl ?_
  refine mix1_val (fun wz hz => ex_load ty28 rfl (hz.cell (i := 0) rfl rfl)) ?_
  refine mixz_p rfl ?_
  refine mix1_yes rfl ?_
  refine mix1_val (fun wz hz => ex_move rfl) ?_
  refine nZ38 ?_
  refine mixz_p rfl ?_
  refine mix1_yes rfl ?_
  refine mix1_val (fun wz hz => ex_nilCheck rfl) ?_
  refine mixz_p rfl ?_
  refine mix1_yes rfl ?_
  refine mix1_val (fun wz hz => ex_fieldAddr fl31_1 rfl) ?_
  refine mixz_p rfl ?_
  refine mix1_yes rfl ?_
  refine mix1_val (fun wz hz => ex_load ty28 rfl (hz.cell (i := 0) rfl rfl)) ?_
  refine mixz_o rfl ?_
  refine ops_yes rfl ?_
  refine ops_call_eq (ex_call gf19 rfl) (first_p _ (W.first : Int) _ (H4.cell (i := 3) rfl rfl)) ?_
  refine ops_nil ?_
  refine ⟨fun hne => H4.pick [6] (by decide), ?_⟩
  refine nZ38 ?_
  refine mixz_o rfl ?_
  refine ops_yes rfl ?_
  refine ops_call (ex_call gf13 rfl) ((cut_all (W.first : Int) (mv m q2) D W _ (H4.pick [0, 1, 2, 3, 4, 5] (by decide)).here hbk.ok hwt hfl htl).mono (fun r wz hq => by
      rcases hq with ⟨hq, _⟩ | ⟨gone, hq, _, hq2⟩
      · exact absurd hq (by omega)
      · exact (⟨gone, hq2⟩ : ∃ (gone : Nat) (x : Int) (D' : Dk) (W' : Wl), r = .int .i64 x ∧ ScRes D W gone x D' W' ∧ WPost _ wz _ (mv m q2) D' W'))) ?_
  rintro r w5 ⟨gone, x, D', W', hr, hres, hwp⟩
  rw [hr]
  obtain ⟨hx1, hx2, hx3⟩ := sc_gone hres hx
  subst hx1
  rw [hx2, hx3] at hwp
  obtain ⟨q3, hxsq3, hbk2, Hc⟩ := hbk.call (lt_pick H4 [6, 7, 8] rfl) hwp
  replace hxs : XsOk w0 m.xs (mv m q3).xs := hxs.trans hxsq3 H4.size
  replace hbk : BOk w5 (mv m q3) D W k K [((some g13, 5, [.int .u8 1]) : Ent)] := hbk2
  have H5 : Hp w0 w5 (bl (bRows m D W k K)) (bRows (mv m q3) D W k K ++ [((some g13, 5, [.int .u8 1]) : Ent)]) := (H4.callr [0, 1, 2, 3, 4, 5] rfl Hc).pick [9, 10, 11, 12, 13, 14, 6, 7, 8] (by decide)
  refine ops_nil ?_
  refine ⟨fun hne => H5.pick [6] (by decide), ?_⟩
  refine nZ38 ?_
  refine mixz_p rfl ?_
  refine mix1_yes rfl ?_
  refine mix1_true (fun wz hz => ex_eql rfl rfl) (rfl) ?_
  refine mixz_p rfl ?_
  refine mix1_val (fun wz hz => ex_pick_t rfl rfl) ?_
  refine mixz_o rfl ?_
  refine ops_val (ex_assign rfl) ?_
  refine ops_nil ?_
  refine ⟨fun hne => absurd rfl hne, ?_⟩
  refine nZ38 ?_
  refine mixz_nil ?_
  refine nR38 ?_
  refine run_ret ?_
  refine fin_ret1 rfl rfl ?_
  exact ⟨rfl, (mv m q3), k, rfl, hxs, XsOk.refl _ _, hbk.less, H5.pick [0, 1, 2, 3, 4, 5, 6, 7] (by decide)⟩
end Go.Proofs.Ytgkciibfpenjpaa
