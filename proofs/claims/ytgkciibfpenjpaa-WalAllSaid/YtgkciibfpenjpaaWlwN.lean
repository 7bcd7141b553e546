/- Walks of layer 2, printed by wip/gen/codec.py. -/
import Derived.Test.YtgkciibfpenjpaaNrm
import Derived.Test.YtgkciibfpenjpaaLx
namespace Go.Proofs.Ytgkciibfpenjpaa
open Go Go.RowKit
set_option linter.unusedVariables false
attribute [local irreducible] Still Ops Does Cd
theorem kc_one' (ks : List Blk) : (kc ks).all (·.oneCell') = true := by
  simp only [kc, List.all_flatMap, List.all_eq_true]
  intro b _ x hx
  exact List.all_eq_true.1 (u8s_one' _) x hx
set_option maxRecDepth 100000 in
set_option maxHeartbeats 4000000 in
theorem cloneK_any (A : Option Addr) (ks : List Blk) (c : Nat) (w0 : World) (hr : Rd w0 A ks.length 64 (kc ks)) (hb : ks.length ≤ 16384) :
    Does Try.prog 56 #[.slice A ks.length c] w0 (fun r w' => ∃ g cap s, r = .slice (hd g) ks.length cap ∧ ks.length ≤ cap ∧ cap * 64 ≤ (kc ks ++ s).length ∧ (g = none → cap = 0) ∧ Hp w0 w' [] [(g, 87, kc ks ++ s)]) := by
  refine does_of Try.func56 Try.ntmps56 rfl ?_
  change Run _ _ _ _ [.slice A ks.length c, undef, undef, undef, undef, undef, undef, undef] _
  have H := Hp.refl w0
  refine run_seq ?_
  refine run_region ?_
  refine ops_val (ex_assign rfl) ?_
  refine ops_nil ?_
  change Run _ _ _ _ [_, _, _, _, _, _, _, _] _
  refine run_seq ?_
  refine run_seq ?_
  refine run_region ?_
  refine ops_val (ex_move rfl) ?_
  refine ops_test (ex_eql_nil_slice Try.underlying84 rfl) (fun hp4 => ?_) (fun hp4 => ?_)
  · skip
    refine ops_nil ?_
    change Run _ _ _ _ [_, _, _, _, _, _, _, _] _
    refine run_cond_true rfl ?_
    refine run_seq ?_
    refine run_region ?_
    refine ops_val (ex_assign rfl) ?_
    refine ops_nil ?_
    change Run _ _ _ _ [_, _, _, _, _, _, _, _] _
    refine run_ret ?_
    refine fin_ret1 rfl rfl ?_
    have hb : ks = [] := List.eq_nil_of_length_eq_zero (hr.nil hp4)
    subst hb
    exact ⟨none, 0, [], rfl, Nat.le_refl _, by simp [kc], fun _ => rfl, by have := H.nil 87; exact this⟩
  · skip
    refine ops_nil ?_
    change Run _ _ _ _ [_, _, _, _, _, _, _, _] _
    refine run_cond_false rfl ?_
    refine run_skip ?_
    refine run_seq ?_
    refine run_region ?_
    refine ops_buildSlice Try.underlying84 ty87 H (cs := []) rfl (by decide) rfl ?_
    intro w1 gb H1 hgb
    refine ops_val (ex_move rfl) ?_
    refine ops_append Try.underlying84 ty87 (by decide) H1 0 (g := some gb) (xs := []) (sp := []) rfl rfl rfl (by simp) (by simp) (by simp) rfl (hr.to0 H1) (kc_one' _) (by omega) (by omega) (by decide) ?_
    intro w2 g3 cap3 sp3 H2 hcap3 hmc3 hg3
    refine ops_val (ex_assign rfl) ?_
    refine ops_nil ?_
    change Run _ _ _ _ [_, _, _, _, _, _, _, _] _
    refine run_ret ?_
    refine fin_ret1 rfl rfl ?_
    rw [Nat.zero_add] at hmc3
    refine ⟨g3, cap3, sp3, ?_, hmc3, hcap3, hg3, H2.pick [0] (by decide)⟩
    rw [Nat.zero_add]
set_option maxRecDepth 100000 in
set_option maxHeartbeats 4000000 in
theorem cloneW_any (A : Option Addr) (ws : List (Nat × Blk)) (c : Nat) (w0 : World) (hr : Rd w0 A ws.length 65 (wc ws)) (hb : ws.length ≤ 2932000000000) :
    Does Try.prog 57 #[.slice A ws.length c] w0 (fun r w' => ∃ g cap s, r = .slice (hd g) ws.length cap ∧ ws.length ≤ cap ∧ cap * 65 ≤ (wc ws ++ s).length ∧ (g = none → cap = 0) ∧ Hp w0 w' [] [(g, 93, wc ws ++ s)]) := by
  refine does_of Try.func57 Try.ntmps57 rfl ?_
  change Run _ _ _ _ [.slice A ws.length c, undef, undef, undef, undef, undef, undef, undef] _
  have H := Hp.refl w0
  refine run_seq ?_
  refine run_region ?_
  refine ops_val (ex_assign rfl) ?_
  refine ops_nil ?_
  change Run _ _ _ _ [_, _, _, _, _, _, _, _] _
  refine run_seq ?_
  refine run_seq ?_
  refine run_region ?_
  refine ops_val (ex_move rfl) ?_
  refine ops_test (ex_eql_nil_slice Try.underlying88 rfl) (fun hp4 => ?_) (fun hp4 => ?_)
  · skip
    refine ops_nil ?_
    change Run _ _ _ _ [_, _, _, _, _, _, _, _] _
    refine run_cond_true rfl ?_
    refine run_seq ?_
    refine run_region ?_
    refine ops_val (ex_assign rfl) ?_
    refine ops_nil ?_
    change Run _ _ _ _ [_, _, _, _, _, _, _, _] _
    refine run_ret ?_
    refine fin_ret1 rfl rfl ?_
    have hb : ws = [] := List.eq_nil_of_length_eq_zero (hr.nil hp4)
    subst hb
    exact ⟨none, 0, [], rfl, Nat.le_refl _, by simp [wc], fun _ => rfl, by have := H.nil 93; exact this⟩
  · skip
    refine ops_nil ?_
    change Run _ _ _ _ [_, _, _, _, _, _, _, _] _
    refine run_cond_false rfl ?_
    refine run_skip ?_
    refine run_seq ?_
    refine run_region ?_
    refine ops_buildSlice Try.underlying88 ty93 H (cs := []) rfl (by decide) rfl ?_
    intro w1 gb H1 hgb
    refine ops_val (ex_move rfl) ?_
    refine ops_append Try.underlying88 ty93 (by decide) H1 0 (g := some gb) (xs := []) (sp := []) rfl rfl rfl (by simp) (by simp) (by simp) rfl (hr.to0 H1) (wc_one' _) (by omega) (by omega) (by decide) ?_
    intro w2 g3 cap3 sp3 H2 hcap3 hmc3 hg3
    refine ops_val (ex_assign rfl) ?_
    refine ops_nil ?_
    change Run _ _ _ _ [_, _, _, _, _, _, _, _] _
    refine run_ret ?_
    refine fin_ret1 rfl rfl ?_
    rw [Nat.zero_add] at hmc3
    refine ⟨g3, cap3, sp3, ?_, hmc3, hcap3, hg3, H2.pick [0] (by decide)⟩
    rw [Nat.zero_add]
set_option maxRecDepth 100000 in
set_option maxHeartbeats 4000000 in
theorem fork_any (gd gk : Nat) (gw : Option Nat) (cw : Nat) (sp : List Value) (D : Dk) (w0 : World) (H0 : Hp w0 w0 (bl (dRows gd gk gw cw sp D)) (dRows gd gk gw cw sp D)) (hD : DOk D gw cw sp) (hm : D.wait.length ≤ 2932000000000) :
    Does Try.prog 22 #[.pointer (some ⟨gd, 0, none⟩)] w0 (fun r w' => ∃ gf gq gv cv sv F, r = .pointer (some ⟨gf, 0, none⟩) ∧ F.kept = D.kept ∧ F.wait = D.wait ∧ F.down = D.down ∧ F.armed = D.armed ∧ DOk F gv cv sv ∧ Hp w0 w' (bl (dRows gd gk gw cw sp D)) (dRows gd gk gw cw sp D ++ dRows gf gq gv cv sv F)) := by
  refine does_of Try.func22 Try.ntmps22 rfl ?_
  refine nR25 ?_
  have H := H0
  obtain ⟨hpos, hmost, hk64, hw64, hwcap, hcap, hnil, harm⟩ := hD
  have hD : DOk D gw cw sp := ⟨hpos, hmost, hk64, hw64, hwcap, hcap, hnil, harm⟩
  refine run_seq ?_
  refine run_region ?_
  refine ops_val (ex_assign rfl) ?_
  refine ops_nil ?_
  refine nR25 ?_
  refine run_seq ?_
  refine run_seq ?_
  refine run_region ?_
  refine ops_val (ex_move rfl) ?_
  refine ops_false (ex_eql_nil_ptr Try.underlying27 rfl) (by simp) ?_
  refine ops_nil ?_
  refine nR25 ?_
  refine run_cond_false rfl ?_
  refine run_skip ?_
  refine run_seq ?_
  refine run_mixH [(true, 0), (true, 1), (true, 2), (true, 3), (true, 5), (true, 6), (true, 7), (true, 8), (true, 10), (true, 11), (true, 12), (true, 13), (true, 14), (true, 15), (true, 16), (true, 17), (false, 4), (false, 9), (true, 18), (false, 19), (true, 20)] H [0] mixed (by decide) (by kernel_rfl) ?_
  rintro w1 hw1
  have H1 := Hp.drew H; rw [← hw1] at H1
  refine mix_p rfl ?_
  refine mix1_val (fun wz hz => ex_move rfl) ?_
  refine mix_p rfl ?_
  refine mix1_val (fun wz hz => ex_nilCheck rfl) ?_
  refine mix_p rfl ?_
  refine mix1_val (fun wz hz => ex_fieldAddr fl90_0 rfl) ?_
  refine mix_p rfl ?_
  refine mix1_val (fun wz hz => ex_load ty84 rfl (hz.cell (i := 0) rfl rfl)) ?_
  refine nM25 ?_
  refine mix_p rfl ?_
  refine mix1_val (fun wz hz => ex_move rfl) ?_
  refine mix_p rfl ?_
  refine mix1_val (fun wz hz => ex_nilCheck rfl) ?_
  refine mix_p rfl ?_
  refine mix1_val (fun wz hz => ex_fieldAddr fl90_1 rfl) ?_
  refine mix_p rfl ?_
  refine mix1_val (fun wz hz => ex_load ty88 rfl (hz.cell (i := 0) rfl rfl)) ?_
  refine nM25 ?_
  refine mix_p rfl ?_
  refine mix1_val (fun wz hz => ex_move rfl) ?_
  refine mix_p rfl ?_
  refine mix1_val (fun wz hz => ex_nilCheck rfl) ?_
  refine mix_p rfl ?_
  refine mix1_val (fun wz hz => ex_fieldAddr fl90_2 rfl) ?_
  refine mix_p rfl ?_
  refine mix1_val (fun wz hz => ex_load ty4 rfl (hz.cell (i := 0) rfl rfl)) ?_
  refine nM25 ?_
  refine mix_p rfl ?_
  refine mix1_val (fun wz hz => ex_move rfl) ?_
  refine mix_p rfl ?_
  refine mix1_val (fun wz hz => ex_nilCheck rfl) ?_
  refine mix_p rfl ?_
  refine mix1_val (fun wz hz => ex_fieldAddr fl90_3 rfl) ?_
  refine mix_p rfl ?_
  refine mix1_val (fun wz hz => ex_load ty3 rfl (hz.cell (i := 0) rfl rfl)) ?_
  refine nM25 ?_
  refine mix_o rfl ?_
  have hk := cloneK_any (some ⟨gk, 0, none⟩) D.kept D.kcap _ (H1.rd (i := 1) (o := some gk) (xs := kc D.kept) (sp := D.ksp) (n := D.kept.length) (sz := 64) rfl (kc_length hk64) (by decide)) hmost
  refine ops_call (ex_call gf56 rfl) hk ?_
  rintro _ w2 ⟨g1, c1, s1, rfl, hm1, hc1, hg1, Hd⟩
  have H2 := H1.call0 Hd
  refine ops_nil ?_
  refine ⟨H2.pick [0] (by decide), ?_⟩
  refine nM25 ?_
  refine mix_o rfl ?_
  have hk := cloneW_any (hd gw) D.wait cw _ (H2.rd (i := 2) (o := gw) (xs := wc D.wait) (sp := sp) (n := D.wait.length) (sz := 65) rfl (wc_length hw64) (by decide)) hm
  refine ops_call (ex_call gf57 rfl) hk ?_
  rintro _ w3 ⟨g2, c2, s2, rfl, hm2, hc2, hg2, Hd⟩
  have H3 := H2.call0 Hd
  refine ops_nil ?_
  refine ⟨H3.pick [0] (by decide), ?_⟩
  refine nM25 ?_
  refine mix_p rfl ?_
  refine mix1_val (fun wz hz => ex_build ty90 pl90 rfl rfl) ?_
  refine mix_o rfl ?_
  refine ops_box rfl rfl H3 ?_
  intro w4 gf H4 hgf
  refine ops_nil ?_
  refine ⟨H4.pick [0] (by decide), ?_⟩
  refine nM25 ?_
  refine mix_p rfl ?_
  refine mix1_val (fun wz hz => ex_assign rfl) ?_
  refine mix_nil ?_
  refine nR25 ?_
  refine run_ret ?_
  refine fin_ret1 rfl rfl ?_
  cases g1 with
  | none => exact absurd (hg1 rfl) (by omega)
  | some gq =>
    exact ⟨gf, gq, g2, c2, s2, { D with kcap := c1, ksp := s1 }, rfl, rfl, rfl, rfl, rfl, ⟨hpos, hmost, hk64, hw64, hm2, hc2, hg2, harm⟩, H4.pick [0, 1, 2, 5, 3, 4] (by decide)⟩
end Go.Proofs.Ytgkciibfpenjpaa
