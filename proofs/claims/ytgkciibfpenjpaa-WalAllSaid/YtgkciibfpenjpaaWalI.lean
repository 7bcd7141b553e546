/- Walks of layer 2, printed by wip/gen/codec.py. -/
import Derived.Test.YtgkciibfpenjpaaNrm
import Derived.Test.YtgkciibfpenjpaaWalH
namespace Go.Proofs.Ytgkciibfpenjpaa
open Go Go.RowKit
set_option linter.unusedVariables false
attribute [local irreducible] Still Ops Does Cd
/-- What Sync and Cut do: they sync, and tell if there is something to tell. -/
def scTell (W : Wl) (gone : Nat) : Bool := decide (0 < gone ∨ W.told < W.recs.length)
def CsOk (D : Dk) (W : Wl) (gone : Nat) (D' : Dk) (W' : Wl) : Prop := D.sync.2 = 0 ∧ ((scTell W gone = false ∧ D' = D.sync.1 ∧ W' = W) ∨ (scTell W gone = true ∧ TellOk D.sync.1 W gone D' ∧ W' = W.tell gone))
def CsBad (D : Dk) (W : Wl) (gone : Nat) (D' : Dk) : Prop := (D.sync.2 ≠ 0 ∧ D' = D.sync.1) ∨ (D.sync.2 = 0 ∧ scTell W gone = true ∧ TellBad D.sync.1 W gone D')
set_option maxRecDepth 100000 in
set_option maxHeartbeats 4000000 in
theorem syncF_any (m : Mw) (D : Dk) (W : Wl) (w0 : World) (H0 : Hp w0 w0 (bl (wRows m D W)) (wRows m D W)) (h : WOk w0 m D W) (gwx : Nat) (hwx : w0.cell? ⟨gwx, 0, none⟩ = some (.pointer (some ⟨m.gv, 0, none⟩))) (hwn : gwx ∉ bl (wRows m D W)) (hwt : D.wait.length ≤ 1000000000) (hfl : W.first ≤ 2 ^ 50) (htl : W.turn ≤ 2 ^ 50) :
    DoesP Try.prog 48 #[.pointer (some ⟨gwx, 0, none⟩)] w0 (fun _ w' => ∃ D' W', CsOk D W 0 D' W' ∧ WPost w0 w' (bl (wRows m D W)) m (D') (W')) (fun ch w' => ch = fallC ∧ ∃ D', CsBad D W 0 D' ∧ WPost w0 w' (bl (wRows m D W)) m (D') (W)) := by
  refine does_ofP Try.func48 Try.ntmps48 rfl ?_
  refine nR19 ?_
  have H := H0
  obtain ⟨hD, hlst, hrc, hrs, hrn, hpl, hpc, hps, hpn, hmost, hlong, hsize, hfin, hplb, hfirst, hturn, hused, htold⟩ := id h
  have hkept := hD.most
  refine run_seq ?_
  refine run_region ?_
  refine ops_val (ex_load ty28 rfl (cell_toW hwx H hwn)) ?_
  refine ops_val (ex_nilCheck rfl) ?_
  refine ops_val (ex_fieldAddr fl58_0 rfl) ?_
  refine ops_val (ex_load ty27 rfl (H.cell (i := 3) rfl rfl)) ?_
  refine nO19 ?_
  refine ops_call (ex_call gf43 rfl) (sync_any m.gd m.gk m.gw m.cw m.sp D _ (H.pick [0, 1, 2] (by decide)).here hD (by omega)) ?_
  rintro r w1 ⟨hr3, gw3, cw3, sp3, hD3, Hd⟩
  rw [hr3]
  have H1 := (H.callr [0, 1, 2] rfl Hd).pick [6, 7, 8, 3, 4, 5] (by decide)
  have hb2 := sync_bd D
  refine ops_callP (ex_call gf36 rfl) (must_any _ _) ?_ ?_
  · rintro ch wz ⟨hcd, rfl, rfl⟩
    have H9 := H1.pick [0, 1, 2, 3, 4, 5] (by decide)
    refine ⟨rfl, _, .inl ⟨hcd, rfl⟩, { m with gw := gw3, cw := cw3, sp := sp3 }, rfl, rfl, rfl, XsOk.refl _ _, ?_, H9⟩
    exact { h with d := hD3, lst := hlst.to H1, size := by rw [hb2.2]; exact hsize, fin := by rw [hb2.2]; exact hfin }
  rintro r wz ⟨hcd1, hwz⟩
  rw [hwz]
  have hw6 : WOk w1 { m with gw := gw3, cw := cw3, sp := sp3 } D.sync.1 W := { h with d := hD3, lst := hlst.to H1, size := by rw [hb2.2]; exact hsize, fin := by rw [hb2.2]; exact hfin }
  have Hsy := H1
  refine ops_nil ?_
  refine nR19 ?_
  refine run_seq ?_
  refine run_mixH [(true, 0), (true, 1), (true, 2), (true, 3), (true, 4), (true, 5), (true, 6), (true, 7), (true, 8), (true, 9)] H1 [3] mixed (by decide) (by kernel_rfl) ?_
  rintro w2 hw2
  have H2 := Hp.drew H1; rw [← hw2] at H2
  refine mix_p rfl ?_
  refine mix1_val (fun wz hz => ex_load ty28 rfl (cell_toW hwx hz hwn)) ?_
  refine mix_p rfl ?_
  refine mix1_val (fun wz hz => ex_nilCheck rfl) ?_
  refine mix_p rfl ?_
  refine mix1_val (fun wz hz => ex_fieldAddr fl58_8 rfl) ?_
  refine mix_p rfl ?_
  refine mix1_val (fun wz hz => ex_load ty3 rfl (hz.cell (i := 0) rfl rfl)) ?_
  refine nM19 ?_
  refine mix_p rfl ?_
  refine mix1_val (fun wz hz => ex_load ty28 rfl (cell_toW hwx hz hwn)) ?_
  refine mix_p rfl ?_
  refine mix1_val (fun wz hz => ex_nilCheck rfl) ?_
  refine mix_p rfl ?_
  refine mix1_val (fun wz hz => ex_fieldAddr fl58_4 rfl) ?_
  refine mix_p rfl ?_
  refine mix1_val (fun wz hz => ex_load ty29 rfl (hz.cell (i := 0) rfl rfl)) ?_
  refine nM19 ?_
  refine mix_p rfl ?_
  refine mix1_val (fun wz hz => ex_len_slice Try.underlying29 rfl) ?_
  refine mix_p rfl ?_
  refine mix1_test (fun wz hz => ex_lss rfl rfl) (fun hp16 => ?_) (fun hp16 => ?_)
  · skip
    refine mix_nil ?_
    refine nR19 ?_
    refine run_cond_true rfl ?_
    refine run_region ?_
    refine ops_val (ex_load ty28 rfl (cell_toW hwx H2 hwn)) ?_
    have htl2 : scTell W 0 = true := by unfold scTell; exact decide_eq_true (by omega)
    have hw7 : WOk w2 { m with gw := gw3, cw := cw3, sp := sp3 } D.sync.1 W := { hw6 with lst := hlst.to H2 }
    refine ops_callP (ex_call gf44 rfl) (tell_any { m with gw := gw3, cw := cw3, sp := sp3 } D.sync.1 W w2 H2.here hw7 0 (Nat.zero_le _) (by omega) hfl htl) ?_ ?_
    · rintro ch wz ⟨rfl, D1, hB, m1, e1, e2, e3, e4, hok1, Hd⟩
      have hz := (H2.callr [0, 1, 2, 3, 4, 5] rfl Hd).pick [6, 7, 8, 9, 10, 11] (by decide)
      exact ⟨rfl, D1, .inr ⟨hcd1, htl2, hB⟩, m1, e1, e2, e3, (XsOk.refl _ _).trans e4 H2.size, hok1, hz⟩
    rintro r w3 ⟨hT, m1, e1, e2, e3, e4, hok1, Hd⟩
    have H3 := (H2.callr [0, 1, 2, 3, 4, 5] rfl Hd).pick [6, 7, 8, 9, 10, 11] (by decide)
    have hP : WPost w0 w3 (bl (wRows m D W)) m _ _ := ⟨m1, e1, e2, e3, (XsOk.refl _ _).trans e4 H2.size, hok1, H3⟩
    refine ops_nil ?_
    refine nR19 ?_
    refine run_nil ?_
    refine finP_end0 rfl ?_
    exact ⟨_, _, ⟨hcd1, .inr ⟨htl2, hT, rfl⟩⟩, hP⟩
  · skip
    refine mix_nil ?_
    refine nR19 ?_
    refine run_cond_false rfl ?_
    refine run_skip ?_
    refine run_nil ?_
    refine finP_end0 rfl ?_
    exact ⟨_, _, ⟨hcd1, .inl ⟨by unfold scTell; exact decide_eq_false (by omega), rfl, rfl⟩⟩, { m with gw := gw3, cw := cw3, sp := sp3 }, rfl, rfl, rfl, XsOk.refl _ _, { hw6 with lst := hlst.to H2 }, H2⟩
set_option maxRecDepth 100000 in
set_option maxHeartbeats 4000000 in
theorem cutF_any (m : Mw) (D : Dk) (W : Wl) (w0 : World) (H0 : Hp w0 w0 (bl (wRows m D W)) (wRows m D W)) (h : WOk w0 m D W) (gwx : Nat) (hwx : w0.cell? ⟨gwx, 0, none⟩ = some (.pointer (some ⟨m.gv, 0, none⟩))) (hwn : gwx ∉ bl (wRows m D W)) (gax gone : Nat) (hgone : gone ≤ W.recs.length) (hax : w0.cell? ⟨gax, 0, none⟩ = some (.int .i64 ((W.first + gone : Nat) : Int))) (han : gax ∉ bl (wRows m D W)) (hwt : D.wait.length ≤ 1000000000) (hfl : W.first ≤ 2 ^ 50) (htl : W.turn ≤ 2 ^ 50) :
    DoesP Try.prog 42 #[.pointer (some ⟨gwx, 0, none⟩), .pointer (some ⟨gax, 0, none⟩)] w0 (fun _ w' => ∃ D' W', CsOk D W gone D' W' ∧ WPost w0 w' (bl (wRows m D W)) m (D') (W')) (fun ch w' => ch = fallC ∧ ∃ D', CsBad D W gone D' ∧ WPost w0 w' (bl (wRows m D W)) m (D') (W)) := by
  refine does_ofP Try.func42 Try.ntmps42 rfl ?_
  refine nR32 ?_
  have H := H0
  obtain ⟨hD, hlst, hrc, hrs, hrn, hpl, hpc, hps, hpn, hmost, hlong, hsize, hfin, hplb, hfirst, hturn, hused, htold⟩ := id h
  have hkept := hD.most
  refine run_seq ?_
  refine run_region ?_
  refine ops_val (ex_load ty28 rfl (cell_toW hwx H hwn)) ?_
  refine ops_val (ex_nilCheck rfl) ?_
  refine ops_val (ex_fieldAddr fl58_0 rfl) ?_
  refine ops_val (ex_load ty27 rfl (H.cell (i := 3) rfl rfl)) ?_
  refine nO32 ?_
  refine ops_call (ex_call gf43 rfl) (sync_any m.gd m.gk m.gw m.cw m.sp D _ (H.pick [0, 1, 2] (by decide)).here hD (by omega)) ?_
  rintro r w1 ⟨hr3, gw3, cw3, sp3, hD3, Hd⟩
  rw [hr3]
  have H1 := (H.callr [0, 1, 2] rfl Hd).pick [6, 7, 8, 3, 4, 5] (by decide)
  have hb2 := sync_bd D
  refine ops_callP (ex_call gf36 rfl) (must_any _ _) ?_ ?_
  · rintro ch wz ⟨hcd, rfl, rfl⟩
    have H9 := H1.pick [0, 1, 2, 3, 4, 5] (by decide)
    refine ⟨rfl, _, .inl ⟨hcd, rfl⟩, { m with gw := gw3, cw := cw3, sp := sp3 }, rfl, rfl, rfl, XsOk.refl _ _, ?_, H9⟩
    exact { h with d := hD3, lst := hlst.to H1, size := by rw [hb2.2]; exact hsize, fin := by rw [hb2.2]; exact hfin }
  rintro r wz ⟨hcd1, hwz⟩
  rw [hwz]
  have hw6 : WOk w1 { m with gw := gw3, cw := cw3, sp := sp3 } D.sync.1 W := { h with d := hD3, lst := hlst.to H1, size := by rw [hb2.2]; exact hsize, fin := by rw [hb2.2]; exact hfin }
  have Hsy := H1
  refine ops_nil ?_
  refine nR32 ?_
  refine run_seq ?_
  refine run_mixH [(true, 0), (true, 1), (true, 2), (true, 3), (true, 4), (true, 5), (true, 6)] H1 [3] mixed (by decide) (by kernel_rfl) ?_
  rintro w2 hw2
  have H2 := Hp.drew H1; rw [← hw2] at H2
  refine mix_p rfl ?_
  refine mix1_val (fun wz hz => ex_load ty3 rfl (cell_toW hax hz han)) ?_
  refine mix_p rfl ?_
  refine mix1_val (fun wz hz => ex_load ty28 rfl (cell_toW hwx hz hwn)) ?_
  refine mix_p rfl ?_
  refine mix1_val (fun wz hz => ex_nilCheck rfl) ?_
  refine mix_p rfl ?_
  refine mix1_val (fun wz hz => ex_fieldAddr fl58_3 rfl) ?_
  refine nM32 ?_
  refine mix_p rfl ?_
  refine mix1_val (fun wz hz => ex_load ty3 rfl (hz.cell (i := 0) rfl rfl)) ?_
  refine mix_p rfl ?_
  refine mix1_val (fun wz hz => ex_sub rfl rfl ((IntWalk.i64_in _ (by omega)).trans (show (((W.first + gone : Nat) : Int) - (W.first : Int)) = ((gone : Nat) : Int) by omega))) ?_
  refine mix_p rfl ?_
  refine mix1_val (fun wz hz => ex_assign rfl) ?_
  refine mix_nil ?_
  refine nR32 ?_
  refine run_seq ?_
  refine run_mixH [(true, 0), (true, 1), (true, 2), (true, 3), (true, 4), (true, 5), (true, 6), (true, 7), (true, 8), (true, 9), (true, 10), (true, 11), (true, 12), (true, 13)] H2 [3] mixed (by decide) (by kernel_rfl) ?_
  rintro w3 hw3
  have H3 := Hp.drew H2; rw [← hw3] at H3
  refine mix_p rfl ?_
  refine mix1_val (fun wz hz => ex_move rfl) ?_
  refine mix_p rfl ?_
  refine mix1_test (fun wz hz => ex_gtr rfl rfl) (fun hp16 => ?_) (fun hp16 => ?_)
  · skip
    refine mix_p rfl ?_
    refine mix1_val (fun wz hz => ex_move rfl) ?_
    refine mix_p rfl ?_
    refine mix1_no rfl ?_
    refine nM32 ?_
    refine mix_p rfl ?_
    refine mix1_no rfl ?_
    refine mix_p rfl ?_
    refine mix1_no rfl ?_
    refine nM32 ?_
    refine mix_p rfl ?_
    refine mix1_no rfl ?_
    refine mix_p rfl ?_
    refine mix1_no rfl ?_
    refine nM32 ?_
    refine mix_p rfl ?_
    refine mix1_no rfl ?_
    refine mix_p rfl ?_
    refine mix1_no rfl ?_
    refine nM32 ?_
    refine mix_p rfl ?_
    refine mix1_no rfl ?_
    refine mix_p rfl ?_
    refine mix1_no rfl ?_
    refine nM32 ?_
    refine mix_p rfl ?_
    refine mix1_no rfl ?_
    refine mix_p rfl ?_
    refine mix1_val (fun wz hz => ex_pick_t rfl rfl) ?_
    refine mix_nil ?_
    refine nR32 ?_
    refine run_cond_true rfl ?_
    refine run_region ?_
    refine ops_val (ex_load ty28 rfl (cell_toW hwx H3 hwn)) ?_
    refine ops_val (ex_move rfl) ?_
    have htl2 : scTell W gone = true := by unfold scTell; exact decide_eq_true (by omega)
    have hw7 : WOk w3 { m with gw := gw3, cw := cw3, sp := sp3 } D.sync.1 W := { hw6 with lst := hlst.to H3 }
    refine ops_callP (ex_call gf44 rfl) (tell_any { m with gw := gw3, cw := cw3, sp := sp3 } D.sync.1 W w3 H3.here hw7 gone hgone (by omega) hfl htl) ?_ ?_
    · rintro ch wz ⟨rfl, D1, hB, m1, e1, e2, e3, e4, hok1, Hd⟩
      have hz := (H3.callr [0, 1, 2, 3, 4, 5] rfl Hd).pick [6, 7, 8, 9, 10, 11] (by decide)
      exact ⟨rfl, D1, .inr ⟨hcd1, htl2, hB⟩, m1, e1, e2, e3, (XsOk.refl _ _).trans e4 H3.size, hok1, hz⟩
    rintro r w4 ⟨hT, m1, e1, e2, e3, e4, hok1, Hd⟩
    have H4 := (H3.callr [0, 1, 2, 3, 4, 5] rfl Hd).pick [6, 7, 8, 9, 10, 11] (by decide)
    have hP : WPost w0 w4 (bl (wRows m D W)) m _ _ := ⟨m1, e1, e2, e3, (XsOk.refl _ _).trans e4 H3.size, hok1, H4⟩
    refine ops_nil ?_
    refine nR32 ?_
    refine run_nil ?_
    refine finP_end0 rfl ?_
    exact ⟨_, _, ⟨hcd1, .inr ⟨htl2, hT, rfl⟩⟩, hP⟩
  · skip
    refine mix_p rfl ?_
    refine mix1_val (fun wz hz => ex_move rfl) ?_
    refine mix_p rfl ?_
    refine mix1_yes rfl ?_
    refine mix1_val (fun wz hz => ex_load ty28 rfl (cell_toW hwx hz hwn)) ?_
    refine mix_p rfl ?_
    refine mix1_yes rfl ?_
    refine mix1_val (fun wz hz => ex_nilCheck rfl) ?_
    refine nM32 ?_
    refine mix_p rfl ?_
    refine mix1_yes rfl ?_
    refine mix1_val (fun wz hz => ex_fieldAddr fl58_8 rfl) ?_
    refine mix_p rfl ?_
    refine mix1_yes rfl ?_
    refine mix1_val (fun wz hz => ex_load ty3 rfl (hz.cell (i := 0) rfl rfl)) ?_
    refine mix_p rfl ?_
    refine mix1_yes rfl ?_
    refine mix1_val (fun wz hz => ex_load ty28 rfl (cell_toW hwx hz hwn)) ?_
    refine mix_p rfl ?_
    refine mix1_yes rfl ?_
    refine mix1_val (fun wz hz => ex_nilCheck rfl) ?_
    refine nM32 ?_
    refine mix_p rfl ?_
    refine mix1_yes rfl ?_
    refine mix1_val (fun wz hz => ex_fieldAddr fl58_4 rfl) ?_
    refine mix_p rfl ?_
    refine mix1_yes rfl ?_
    refine mix1_val (fun wz hz => ex_load ty29 rfl (hz.cell (i := 0) rfl rfl)) ?_
    refine mix_p rfl ?_
    refine mix1_yes rfl ?_
    refine mix1_val (fun wz hz => ex_len_slice Try.underlying29 rfl) ?_
    refine mix_p rfl ?_
    refine mix1_yes rfl ?_
    refine mix1_test (fun wz hz => ex_lss rfl rfl) (fun hp27 => ?_) (fun hp27 => ?_)
    · skip
      refine mix_p rfl ?_
      refine mix1_val (fun wz hz => ex_pick_f rfl rfl) ?_
      refine nM32 ?_
      refine mix_nil ?_
      refine nR32 ?_
      refine run_cond_true rfl ?_
      refine run_region ?_
      refine ops_val (ex_load ty28 rfl (cell_toW hwx H3 hwn)) ?_
      refine ops_val (ex_move rfl) ?_
      have htl2 : scTell W gone = true := by unfold scTell; exact decide_eq_true (by omega)
      have hw7 : WOk w3 { m with gw := gw3, cw := cw3, sp := sp3 } D.sync.1 W := { hw6 with lst := hlst.to H3 }
      refine ops_callP (ex_call gf44 rfl) (tell_any { m with gw := gw3, cw := cw3, sp := sp3 } D.sync.1 W w3 H3.here hw7 gone hgone (by omega) hfl htl) ?_ ?_
      · rintro ch wz ⟨rfl, D1, hB, m1, e1, e2, e3, e4, hok1, Hd⟩
        have hz := (H3.callr [0, 1, 2, 3, 4, 5] rfl Hd).pick [6, 7, 8, 9, 10, 11] (by decide)
        exact ⟨rfl, D1, .inr ⟨hcd1, htl2, hB⟩, m1, e1, e2, e3, (XsOk.refl _ _).trans e4 H3.size, hok1, hz⟩
      rintro r w4 ⟨hT, m1, e1, e2, e3, e4, hok1, Hd⟩
      have H4 := (H3.callr [0, 1, 2, 3, 4, 5] rfl Hd).pick [6, 7, 8, 9, 10, 11] (by decide)
      have hP : WPost w0 w4 (bl (wRows m D W)) m _ _ := ⟨m1, e1, e2, e3, (XsOk.refl _ _).trans e4 H3.size, hok1, H4⟩
      refine ops_nil ?_
      refine nR32 ?_
      refine run_nil ?_
      refine finP_end0 rfl ?_
      exact ⟨_, _, ⟨hcd1, .inr ⟨htl2, hT, rfl⟩⟩, hP⟩
    · skip
      refine mix_p rfl ?_
      refine mix1_val (fun wz hz => ex_pick_f rfl rfl) ?_
      refine nM32 ?_
      refine mix_nil ?_
      refine nR32 ?_
      refine run_cond_false rfl ?_
      refine run_skip ?_
      refine run_nil ?_
      refine finP_end0 rfl ?_
      exact ⟨_, _, ⟨hcd1, .inl ⟨by unfold scTell; exact decide_eq_false (by omega), rfl, rfl⟩⟩, { m with gw := gw3, cw := cw3, sp := sp3 }, rfl, rfl, rfl, XsOk.refl _ _, { hw6 with lst := hlst.to H3 }, H3⟩
end Go.Proofs.Ytgkciibfpenjpaa
