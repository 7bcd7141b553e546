/- Walks of layer 2, printed by wip/gen/codec.py. -/
import Derived.Test.YtgkciibfpenjpaaNrm
import Derived.Test.YtgkciibfpenjpaaDiskA
namespace Go.Proofs.Ytgkciibfpenjpaa
open Go Go.RowKit
set_option linter.unusedVariables false
attribute [local irreducible] Still Ops Does Cd
set_option maxRecDepth 100000 in
set_option maxHeartbeats 4000000 in
theorem write_any (gd gk : Nat) (gw : Option Nat) (cw : Nat) (sp : List Value) (D : Dk) (w0 : World) (H0 : Hp w0 w0 (bl (dRows gd gk gw cw sp D)) (dRows gd gk gw cw sp D)) (hD : DOk D gw cw sp) (a : Int) (A : Option Addr) (b : Blk) (c : Nat) (hr : Rd w0 A b.length 1 (u8s b)) (hsep : ∀ p, A = some p → p.block ∉ bl (dRows gd gk gw cw sp D)) (hm : D.wait.length ≤ 2932000000000) :
    Does Try.prog 37 #[.pointer (some ⟨gd, 0, none⟩), .int .i64 a, .slice A b.length c] w0 (fun r w' => r = .int .i64 ((D.write a b).2 : Int) ∧ DPost w0 w' (bl (dRows gd gk gw cw sp D)) gd gk (D.write a b).1) := by
  refine does_of Try.func37 Try.ntmps37 rfl ?_
  refine nR46 ?_
  have H := H0
  obtain ⟨hpos, hmost, hk64, hw64, hwcap, hcap, hnil, harm⟩ := hD
  have hD : DOk D gw cw sp := ⟨hpos, hmost, hk64, hw64, hwcap, hcap, hnil, harm⟩
  refine run_seq ?_
  refine run_region ?_
  refine ops_val (ex_assign rfl) ?_
  refine ops_nil ?_
  refine nR46 ?_
  refine run_seq ?_
  refine run_seq ?_
  refine run_region ?_
  refine ops_val (ex_move rfl) ?_
  refine ops_call_val (ex_call gf59 rfl) (ready_any gd gk gw cw sp D _ H.here hD) ?_
  intro w1 Hd
  have H1 := (H.callr [0, 1, 2] rfl Hd).pick [3, 4, 5] (by decide)
  refine ops_val (ex_assign rfl) ?_
  refine ops_nil ?_
  refine nR46 ?_
  refine run_seq ?_
  refine run_region ?_
  refine ops_val (ex_move rfl) ?_
  refine ops_test (ex_neq rfl rfl) (fun hp11 => ?_) (fun hp11 => ?_)
  · have hdn : D.down = true := by
      by_cases h : D.down = true
      · exact h
      · rw [if_neg h] at hp11; omega
    refine ops_nil ?_
    refine nR46 ?_
    refine run_cond_true rfl ?_
    refine run_seq ?_
    refine run_region ?_
    refine ops_val (ex_move rfl) ?_
    refine ops_val (ex_assign rfl) ?_
    refine ops_nil ?_
    refine nR46 ?_
    refine run_ret ?_
    refine fin_ret1 rfl rfl ?_
    have hw : D.write a b = (D, 40) := if_pos hdn
    rw [hw, if_pos hdn]
    exact ⟨rfl, gw, cw, sp, hD, H1⟩
  · have hdn : ¬ D.down = true := fun h => by rw [if_pos h] at hp11; omega
    refine ops_nil ?_
    refine nR46 ?_
    refine run_cond_false rfl ?_
    refine run_skip ?_
    refine run_seq ?_
    refine run_seq ?_
    refine run_region ?_
    refine ops_val (ex_move rfl) ?_
    refine ops_test (ex_lss rfl rfl) (fun hp14 => ?_) (fun hp14 => ?_)
    · skip
      refine ops_val (ex_move rfl) ?_
      refine nO46 ?_
      refine ops_no rfl ?_
      refine ops_no rfl ?_
      refine nO46 ?_
      refine ops_no rfl ?_
      refine ops_no rfl ?_
      refine nO46 ?_
      refine ops_no rfl ?_
      refine ops_no rfl ?_
      refine nO46 ?_
      refine ops_no rfl ?_
      refine ops_val (ex_pick_t rfl rfl) ?_
      refine ops_nil ?_
      refine nR46 ?_
      refine run_cond_true rfl ?_
      refine run_seq ?_
      refine run_region ?_
      refine ops_val (ex_assign rfl) ?_
      refine ops_nil ?_
      refine nR46 ?_
      refine run_ret ?_
      refine fin_ret1 rfl rfl ?_
      have hw : D.write a b = (D, 41) := by
        unfold Dk.write
        rw [if_neg hdn, if_pos (by omega)]
      rw [hw]
      exact ⟨rfl, gw, cw, sp, hD, H1⟩
    · obtain ⟨n, rfl⟩ := Int.eq_ofNat_of_zero_le (show 0 ≤ a by omega)
      refine ops_val (ex_move rfl) ?_
      refine nO46 ?_
      refine ops_yes rfl ?_
      refine ops_val (ex_move rfl) ?_
      refine ops_yes rfl ?_
      refine ops_val (ex_move rfl) ?_
      refine nO46 ?_
      refine ops_yes rfl ?_
      refine ops_val (ex_nilCheck rfl) ?_
      refine ops_yes rfl ?_
      refine ops_val (ex_fieldAddr fl90_0 rfl) ?_
      refine nO46 ?_
      refine ops_yes rfl ?_
      refine ops_val (ex_load ty84 rfl (H1.cell (i := 0) rfl rfl)) ?_
      refine ops_yes rfl ?_
      refine ops_val (ex_len_slice Try.underlying84 rfl) ?_
      refine nO46 ?_
      refine ops_yes rfl ?_
      refine ops_test (ex_geq rfl rfl) (fun hp22 => ?_) (fun hp22 => ?_)
      · skip
        refine ops_val (ex_pick_f rfl rfl) ?_
        refine ops_nil ?_
        refine nR46 ?_
        refine run_cond_true rfl ?_
        refine run_seq ?_
        refine run_region ?_
        refine ops_val (ex_assign rfl) ?_
        refine ops_nil ?_
        refine nR46 ?_
        refine run_ret ?_
        refine fin_ret1 rfl rfl ?_
        have hw : D.write (n : Int) b = (D, 41) := by
          unfold Dk.write
          rw [if_neg hdn, if_pos (by omega)]
        rw [hw]
        exact ⟨rfl, gw, cw, sp, hD, H1⟩
      · skip
        refine ops_val (ex_pick_f rfl rfl) ?_
        refine ops_nil ?_
        refine nR46 ?_
        refine run_cond_false rfl ?_
        refine run_skip ?_
        refine run_seq ?_
        refine run_seq ?_
        refine run_region ?_
        refine ops_val (ex_move rfl) ?_
        refine ops_val (ex_len_slice Try.underlying34 rfl) ?_
        refine ops_test (ex_neq rfl rfl) (fun hp26 => ?_) (fun hp26 => ?_)
        · skip
          refine ops_nil ?_
          refine nR46 ?_
          refine run_cond_true rfl ?_
          refine run_seq ?_
          refine run_region ?_
          refine ops_val (ex_assign rfl) ?_
          refine ops_nil ?_
          refine nR46 ?_
          refine run_ret ?_
          refine fin_ret1 rfl rfl ?_
          have hw : D.write (n : Int) b = (D, 1) := by
            unfold Dk.write
            rw [if_neg hdn, if_neg (by omega), if_pos (by omega)]
          rw [hw]
          exact ⟨rfl, gw, cw, sp, hD, H1⟩
        · have hb64 : b.length = 64 := by omega
          obtain ⟨p, rfl⟩ := hr.some_ (by omega)
          refine ops_nil ?_
          refine nR46 ?_
          refine run_cond_false rfl ?_
          refine run_skip ?_
          refine run_seq ?_
          refine run_mixZ 14 [(true, 0), (true, 1), (true, 2), (true, 3), (true, 4), (true, 5), (true, 6), (true, 7), (true, 8), (true, 9), (false, 10), (false, 11), (true, 12), (true, 13), (false, 14)] H1 [0] mixed (by decide) (by kernel_rfl) ?_
          rintro w2 hw2
          have H2 := Hp.drew H1; rw [← hw2] at H2
          refine mixz_p rfl ?_
          refine mix1_val (fun wz hz => ex_move rfl) ?_
          refine mixz_p rfl ?_
          refine mix1_val (fun wz hz => ex_move rfl) ?_
          refine mixz_p rfl ?_
          refine mix1_val (fun wz hz => ex_nilCheck rfl) ?_
          refine mixz_p rfl ?_
          refine mix1_val (fun wz hz => ex_fieldAddr fl90_1 rfl) ?_
          refine nZ46 ?_
          refine mixz_p rfl ?_
          refine mix1_val (fun wz hz => ex_load ty88 rfl (hz.cell (i := 0) rfl rfl)) ?_
          refine mixz_p rfl ?_
          refine mix1_val (fun wz hz => ex_move rfl) ?_
          refine mixz_p rfl ?_
          refine mix1_val (fun wz hz => ex_move rfl) ?_
          refine mixz_p rfl ?_
          refine mix1_val (fun wz hz => ex_slicePtr Try.underlying87 rfl (by omega)) ?_
          refine nZ46 ?_
          refine mixz_p rfl ?_
          refine mix1_val (fun wz hz => ex_loadN ty87 rfl (vs := u8s b) (by rw [u8s_length]; omega) (fun j u hu => (hr.to hz hsep).cells p rfl j u hu)) ?_
          refine mixz_p rfl ?_
          refine mix1_val (fun wz hz => ex_build ty93 pl93 rfl (build_write rfl hb64)) ?_
          refine mixz_o rfl ?_
          refine ops_buildSlice Try.underlying88 ty93 H2 rfl (by decide) (fill_one (v := .agg (wcell (n, b)).toArray) (wcell_length hb64) rfl) ?_
          intro w3 gb H3 hgb
          refine ops_nil ?_
          refine ⟨fun hne => H3.pick [0] (by decide), ?_⟩
          refine nZ46 ?_
          refine mixz_o rfl ?_
          refine ops_append Try.underlying88 ty93 (by decide) H3 2 (g := gw) (xs := wc D.wait) (sp := sp) rfl rfl (wc_length hw64) hcap hwcap hnil rfl (H3.rd (i := 3) (o := some gb) (xs := wcell (n, b)) (sp := []) (n := 1) (sz := 65) (by rw [List.append_nil]; rfl) (wcell_length hb64) (by decide)) (wcell_one' n b) (by omega) (by omega) (by decide) ?_
          intro w4 g3 cap3 sp3 H4 hcap3 hmc3 hg3
          refine ops_nil ?_
          refine ⟨fun hne => H4.pick [0] (by decide), ?_⟩
          refine nZ46 ?_
          refine mixz_p rfl ?_
          refine mix1_val (fun wz hz => ex_nilCheck rfl) ?_
          refine mixz_p rfl ?_
          refine mix1_val (fun wz hz => ex_fieldAddr fl90_1 rfl) ?_
          refine mixz_o rfl ?_
          refine ops_store1 ty88 H4 0 rfl rfl rfl rfl (by first | decide | simp) rfl ?_
          intro w5 H5
          refine ops_nil ?_
          refine ⟨fun hne => absurd rfl hne, ?_⟩
          refine nZ46 ?_
          refine mixz_nil ?_
          refine nR46 ?_
          refine run_seq ?_
          refine run_seq ?_
          refine run_region ?_
          refine ops_val (ex_move rfl) ?_
          have HD : Hp w0 w5 (bl (dRows gd gk gw cw sp D)) (dRows gd gk g3 cap3 sp3 (D.put n b)) := by
            simp only [dRows, Dk.put, List.length_append, List.length_cons, List.length_nil, wc_snoc]
            exact H5.pick [0, 1, 2] (by decide)
          have hO : DOk (D.put n b) g3 cap3 sp3 := by
            refine ⟨hpos, hmost, hk64, fun q hq => ?_, by simp only [Dk.put, List.length_append, List.length_cons, List.length_nil]; exact hmc3, by simp only [Dk.put, wc_snoc]; exact hcap3, hg3, harm⟩
            rcases List.mem_append.1 hq with h | h
            · exact hw64 q h
            · rw [List.mem_singleton.1 h]
              exact ⟨hb64, by show n < D.kept.length; omega⟩
          refine ops_call_val (ex_call gf62 rfl) (hit_any gd gk g3 cap3 sp3 _ _ HD.here hO) ?_
          intro w6 Hd
          have H6 := (HD.callr [0, 1, 2] rfl Hd).pick [3, 4, 5] (by decide)
          refine ops_nil ?_
          refine nR46 ?_
          refine run_cond rfl (fun hb42 => ?_) (fun hb42 => ?_)
          · have hw : D.write (n : Int) b = ({ (D.put n b).hit.1 with down := true }, 40) := by
              unfold Dk.write
              rw [if_neg hdn, if_neg (by omega), if_neg (by omega)]
              exact if_pos hb42
            refine run_seq ?_
            refine run_region ?_
            refine ops_val (ex_move rfl) ?_
            refine ops_val (ex_nilCheck rfl) ?_
            refine ops_val (ex_fieldAddr fl90_2 rfl) ?_
            refine ops_store1 ty4 H6 0 rfl rfl rfl rfl (by first | decide | simp) rfl ?_
            intro w7 H7
            refine ops_nil ?_
            refine nR46 ?_
            refine run_seq ?_
            refine run_region ?_
            refine ops_val (ex_assign rfl) ?_
            refine ops_nil ?_
            refine nR46 ?_
            refine run_ret ?_
            refine fin_ret1 rfl rfl ?_
            rw [hw]
            first | exact ⟨rfl, g3, cap3, sp3, hO.hit.fall true, H7⟩ | exact ⟨rfl, g3, cap3, sp3, hO.hit, H7⟩
          · have hw : D.write (n : Int) b = ((D.put n b).hit.1, 0) := by
              unfold Dk.write
              rw [if_neg hdn, if_neg (by omega), if_neg (by omega)]
              exact if_neg (fun hh => by have h2 : (D.put n b).hit.2 = true := hh; rw [hb42] at h2; cases h2)
            refine run_skip ?_
            refine run_seq ?_
            refine run_region ?_
            refine ops_val (ex_assign rfl) ?_
            refine ops_nil ?_
            refine nR46 ?_
            refine run_ret ?_
            refine fin_ret1 rfl rfl ?_
            rw [hw]
            first | exact ⟨rfl, g3, cap3, sp3, hO.hit.fall true, H6⟩ | exact ⟨rfl, g3, cap3, sp3, hO.hit, H6⟩
theorem awake_write : (Dk.write ⟨List.replicate 2 zero64, [], false, 0, 2, []⟩ 1 (blockOf 7)) = (⟨List.replicate 2 zero64, [(1, blockOf 7)], false, 0, 2, []⟩, 0) := by
  unfold Dk.write
  rw [if_neg (by decide), if_neg (by simp), if_neg (by rw [blockOf_length]; decide)]
  rfl
end Go.Proofs.Ytgkciibfpenjpaa
