/- Walks of layer 2, printed by wip/gen/codec.py. -/
import Derived.Test.YtoeobicpdeklaaaGreatNrm
import Derived.Test.YtoeobicpdeklaaaGreatCodecD
import Derived.Test.YtoeobicpdeklaaaGreatCodecRef
namespace Go.Proofs.YtoeobicpdeklaaaGreat
open Go Go.RowKit
set_option linter.unusedVariables false
attribute [local irreducible] Still Ops Does Cd
theorem pl125 : placesOf Tryz.prog 125 = some [(0, 1), (1, 1), (2, 1)] := by kernel_rfl
set_option maxRecDepth 100000 in
set_option maxHeartbeats 4000000 in
theorem newW_any (A : Option Addr) (b : List UInt8) (c : Nat) (w0 : World) (hr : Rd w0 A b.length 1 (u8s b)) (hb : b.length ≤ 211106232532900) :
    Does Tryz.prog 58 #[.slice A b.length c] w0 (fun r w' => NewRw w0 w' r b) := by
  refine does_of Tryz.func58 Tryz.ntmps58 rfl ?_
  change Run _ _ _ _ [.slice A b.length c, undef, undef, undef, undef, undef, undef, undef] _
  have H := Hp.refl w0
  refine run_seq ?_
  refine run_region ?_
  refine ops_val (ex_assign rfl) ?_
  refine ops_nil ?_
  change Run _ _ _ _ [_, _, _, _, _, _, _, _] _
  refine run_seq ?_
  refine run_region ?_
  refine ops_buildSlice Tryz.underlying29 ty5 H (cs := []) rfl (by decide) rfl ?_
  intro w1 g0 H1 hg0
  refine ops_val (ex_move rfl) ?_
  refine ops_append Tryz.underlying29 ty5 (by decide) H1 0 (g := some g0) (xs := []) (sp := []) rfl rfl rfl (by decide) (by decide) (by simp) rfl (hr.to0 H1) (u8s_one' b) (by omega) (by omega) (by decide) ?_
  intro w2 gA cA sA H2 hcA hmA hgA
  rw [Nat.zero_add] at *
  refine ops_val (ex_build ty125 pl125 rfl rfl) ?_
  change Ops _ _ _ _ _ _ [_, _, _, _, _, _, _, _] _
  refine ops_box rfl rfl H2 ?_
  intro w3 g3 H3 hg3
  refine ops_val (ex_assign rfl) ?_
  refine ops_nil ?_
  change Run _ _ _ _ [_, _, _, _, _, _, _, _] _
  refine run_ret ?_
  refine fin_ret1 rfl rfl ?_
  exact ⟨_, gA, cA, sA, rfl, hmA, hcA, hgA, H3.pick [1, 0] (by decide)⟩
set_option maxRecDepth 100000 in
set_option maxHeartbeats 4000000 in
theorem failW_any (gw : Nat) (A : Option Addr) (c : Nat) (b : List UInt8) (i e : Nat) (w0 : World) (hR : Rdw w0 gw A c b i e) (k : Nat) :
    Does Tryz.prog 98 #[.pointer (some ⟨gw, 0, none⟩), .int .i64 (k : Int)] w0 (fun r w' => Hp w0 w' [gw] [(some gw, 125, rc A b c (i) (if e = 0 then k else e))]) := by
  refine does_of Tryz.func98 Tryz.ntmps98 rfl ?_
  refine nR13 ?_
  have H := Hp.old hR.row
  have hle := hR.le
  have hln := hR.len
  have hcp := hR.cap
  refine run_seq ?_
  refine run_region ?_
  refine ops_val (ex_move rfl) ?_
  refine ops_val (ex_nilCheck rfl) ?_
  refine ops_val (ex_fieldAddr fl125_2 rfl) ?_
  refine ops_val (ex_load ty32 rfl (H.cell (i := 0) rfl rfl)) ?_
  refine nO13 ?_
  refine ops_test (ex_eql rfl rfl) (fun hp8 => ?_) (fun hp8 => ?_)
  · have he : e = 0 := by omega
    refine ops_nil ?_
    refine nR13 ?_
    refine run_cond_true rfl ?_
    refine run_region ?_
    refine ops_val (ex_move rfl) ?_
    refine ops_val (ex_move rfl) ?_
    refine ops_val (ex_nilCheck rfl) ?_
    refine ops_val (ex_fieldAddr fl125_2 rfl) ?_
    refine nO13 ?_
    refine ops_store1 ty32 H 0 rfl rfl rfl rfl (by first | decide | simp) rfl ?_
    intro w1 H1
    refine ops_nil ?_
    refine nR13 ?_
    refine run_nil ?_
    refine fin_end0 rfl ?_
    rw [if_pos he]
    exact H1
  · have he : e ≠ 0 := by omega
    refine ops_nil ?_
    refine nR13 ?_
    refine run_cond_false rfl ?_
    refine run_skip ?_
    refine run_nil ?_
    refine fin_end0 rfl ?_
    rw [if_neg he]
    exact H
set_option maxRecDepth 100000 in
set_option maxHeartbeats 4000000 in
theorem numberW_any (gw : Nat) (A : Option Addr) (c : Nat) (b : List UInt8) (i e : Nat) (w0 : World) (hR : Rdw w0 gw A c b i e) :
    Does Tryz.prog 109 #[.pointer (some ⟨gw, 0, none⟩)] w0 (fun r w' => r = .tuple #[.int .u64 ((numOf (b.drop i)).1 : Int), .int .i64 ((if (numOf (b.drop i)).2.2 = 0 then i + (numOf (b.drop i)).2.1 else 0 : Nat) : Int), .int .i64 ((numOf (b.drop i)).2.2 : Int)] ∧ Hp w0 w' [gw] [(some gw, 125, rc A b c (i) (e))]) := by
  refine does_of Tryz.func109 Tryz.ntmps109 rfl ?_
  refine nR66 ?_
  have H := Hp.old hR.row
  have hle := hR.le
  have hln := hR.len
  have hcp := hR.cap
  refine run_seq ?_
  refine run_region ?_
  refine ops_val (ex_assign rfl) ?_
  refine ops_val (ex_assign rfl) ?_
  refine ops_val (ex_assign rfl) ?_
  refine ops_nil ?_
  refine nR66 ?_
  refine run_seq ?_
  refine run_region ?_
  refine ops_val (ex_assign rfl) ?_
  refine ops_nil ?_
  refine nR66 ?_
  refine run_seq ?_
  refine run_region ?_
  refine ops_val (ex_assign rfl) ?_
  refine ops_nil ?_
  refine nR66 ?_
  refine run_block ?_
  refine run_loop (fun n l w => ∃ (k v : Nat) (x y : Int), b.length - (i + k) = n ∧ Fits [some (.pointer (some ⟨gw, 0, none⟩)), none, none, none, none, some (.int .u64 x), some (.int .i64 y), none, none, none, none, none, none, none, none, none, none, none, none, none, none, none, none, none, none, none, none, none, none, none, none, none, none, none, none, none, none, none, none, none, none, none, none, none, none, none, none, none, none, none, none, none, none, none, none, none, none, none, none, none, none, none, none, none, none, none] l ∧ x = v ∧ y = k ∧ i + k ≤ b.length ∧ k ≤ 9 ∧ v < 2 ^ (7 * k) ∧ numOf (b.drop i) = numGo (b.drop (i + k)) k v ∧ Hp w0 w [gw] [(some gw, 125, rc A b c (i) (e))]) (b.length - i) ?_ ?_
  · exact ⟨0, 0, _, _, rfl, (fs (fn (fn (fn (fn (fs (fs (fn (fn (fn (fn (fn (fn (fn (fn (fn (fn (fn (fn (fn (fn (fn (fn (fn (fn (fn (fn (fn (fn (fn (fn (fn (fn (fn (fn (fn (fn (fn (fn (fn (fn (fn (fn (fn (fn (fn (fn (fn (fn (fn (fn (fn (fn (fn (fn (fn (fn (fn (fn (fn (fn (fn (fn (fn (fn (fn f0)))))))))))))))))))))))))))))))))))))))))))))))))))))))))))))))))), rfl, rfl, hle, by omega, by decide, numOf_eq _, H⟩
  · rintro n l w1 ⟨k, v, x, y, rfl, hfit, rfl, rfl, hi, hi9, hv, hnum, H1⟩
    obtain ⟨j, rfl⟩ := hfit.open
    refine nR66 ?_
    clear hfit
    have hrd := hR.rd_in H1
    refine run_seq ?_
    refine run_block ?_
    refine run_seq ?_
    refine run_seq ?_
    refine run_still mixed (by kernel_rfl) ?_
    rintro w2 hw2
    have H2 := Hp.drew H1; rw [← hw2] at H2
    refine still_val (ex_move rfl) ?_
    refine still_val (ex_nilCheck rfl) ?_
    refine still_val (ex_fieldAddr fl125_1 rfl) ?_
    refine still_val (ex_load ty3 rfl (H2.cell (i := 0) rfl rfl)) ?_
    refine nS66 ?_
    refine still_val (ex_move rfl) ?_
    refine still_val (ex_add rfl rfl (IntWalk.i64_in _ (by omega))) ?_
    refine still_val (ex_move rfl) ?_
    refine still_val (ex_nilCheck rfl) ?_
    refine nS66 ?_
    refine still_val (ex_fieldAddr fl125_0 rfl) ?_
    refine still_val (ex_load ty29 rfl (H2.cell (i := 0) rfl rfl)) ?_
    refine still_val (ex_len_slice Tryz.underlying29 rfl) ?_
    refine still_test (ex_geq rfl rfl) (fun hp21 => ?_) (fun hp21 => ?_)
    · rw [show b.drop (i + k) = [] from List.drop_of_length_le (by omega), numGo] at hnum
      refine still_nil ?_
      refine nR66 ?_
      refine run_cond_true rfl ?_
      refine run_seq ?_
      refine run_region ?_
      refine ops_val (ex_assign rfl) ?_
      refine ops_val (ex_assign rfl) ?_
      refine ops_val (ex_assign rfl) ?_
      refine ops_nil ?_
      refine nR66 ?_
      refine run_ret ?_
      refine blk_ret ?_
      refine rnd_ret ?_
      refine blk_ret ?_
      refine fin_ret3 rfl rfl rfl rfl ?_
      rw [hnum]
      exact ⟨rfl, H2⟩
    · have hib : i + k < b.length := by omega
      obtain ⟨a, rfl⟩ := hrd.some_ (by omega)
      rw [List.drop_eq_getElem_cons hib, numGo] at hnum
      have hc := b[i + k].toNat_lt
      generalize hcb : b[i + k].toNat = cc at hc hnum
      refine still_nil ?_
      refine nR66 ?_
      refine run_cond_false rfl ?_
      refine run_skip ?_
      refine run_seq ?_
      refine run_still mixed (by kernel_rfl) ?_
      rintro w3 hw3
      have H3 := Hp.drew H2; rw [← hw3] at H3
      refine still_val (ex_move rfl) ?_
      refine still_val (ex_nilCheck rfl) ?_
      refine still_val (ex_fieldAddr fl125_0 rfl) ?_
      refine still_val (ex_load ty29 rfl (H3.cell (i := 0) rfl rfl)) ?_
      refine nS66 ?_
      refine still_val (ex_move rfl) ?_
      refine still_val (ex_nilCheck rfl) ?_
      refine still_val (ex_fieldAddr fl125_1 rfl) ?_
      refine still_val (ex_load ty3 rfl (H3.cell (i := 0) rfl rfl)) ?_
      refine nS66 ?_
      refine still_val (ex_move rfl) ?_
      refine still_val (ex_add rfl rfl ((IntWalk.i64_in _ (by omega)).trans (show ((i : Int) + (k : Int)) = ((i + k : Nat) : Int) by omega))) ?_
      refine still_val (ex_idx Tryz.underlying29 ty5 rfl rfl rfl hib (Nat.mul_one _)) ?_
      refine still_val (ex_load ty5 rfl ((hR.rd_in H3).cells a rfl (i + k) (.int .u8 (cc : Int)) (by rw [← hcb]; exact u8s_get hib))) ?_
      refine nS66 ?_
      refine still_val (ex_assign rfl) ?_
      refine still_nil ?_
      refine nR66 ?_
      refine run_seq ?_
      refine run_seq ?_
      refine run_region ?_
      refine ops_val (ex_move rfl) ?_
      refine ops_test (ex_eql rfl rfl) (fun hp35 => ?_) (fun hp35 => ?_)
      · have h9 : k = 9 := by omega
        refine ops_val (ex_move rfl) ?_
        refine nO66 ?_
        refine ops_yes rfl ?_
        refine ops_val (ex_move rfl) ?_
        refine ops_yes rfl ?_
        refine ops_test (ex_gtr rfl rfl) (fun hp38 => ?_) (fun hp38 => ?_)
        · rw [if_pos ⟨h9, by omega⟩] at hnum
          refine ops_val (ex_pick_t rfl rfl) ?_
          refine ops_val (ex_move rfl) ?_
          refine nO66 ?_
          refine ops_no rfl ?_
          refine ops_no rfl ?_
          refine nO66 ?_
          refine ops_no rfl ?_
          refine ops_no rfl ?_
          refine nO66 ?_
          refine ops_no rfl ?_
          refine ops_no rfl ?_
          refine ops_val (ex_pick_t rfl rfl) ?_
          refine ops_nil ?_
          refine nR66 ?_
          refine run_cond_true rfl ?_
          refine run_seq ?_
          refine run_region ?_
          refine ops_val (ex_assign rfl) ?_
          refine ops_val (ex_assign rfl) ?_
          refine ops_val (ex_assign rfl) ?_
          refine ops_nil ?_
          refine nR66 ?_
          refine run_ret ?_
          refine blk_ret ?_
          refine rnd_ret ?_
          refine blk_ret ?_
          refine fin_ret3 rfl rfl rfl rfl ?_
          rw [hnum]
          exact ⟨rfl, H3⟩
        · rw [if_neg (by omega)] at hnum
          refine ops_val (ex_pick_t rfl rfl) ?_
          refine ops_val (ex_move rfl) ?_
          refine nO66 ?_
          refine ops_yes rfl ?_
          refine ops_val (ex_move rfl) ?_
          refine ops_yes rfl ?_
          refine ops_test (ex_gtr rfl rfl) (fun hp42 => ?_) (fun hp42 => ?_)
          · skip
            refine ops_yes rfl ?_
            refine ops_val (ex_move rfl) ?_
            refine nO66 ?_
            refine ops_yes rfl ?_
            refine ops_val (ex_move rfl) ?_
            refine ops_yes rfl ?_
            refine ops_test (ex_eql rfl rfl) (fun hp45 => ?_) (fun hp45 => ?_)
            · rw [if_neg (by omega), if_pos ⟨by omega, by omega⟩] at hnum
              refine ops_yes rfl ?_
              refine ops_val (ex_pick_t rfl rfl) ?_
              refine ops_val (ex_pick_f rfl rfl) ?_
              refine ops_nil ?_
              refine nR66 ?_
              refine run_cond_true rfl ?_
              refine run_seq ?_
              refine run_region ?_
              refine ops_val (ex_assign rfl) ?_
              refine ops_val (ex_assign rfl) ?_
              refine ops_val (ex_assign rfl) ?_
              refine ops_nil ?_
              refine nR66 ?_
              refine run_ret ?_
              refine blk_ret ?_
              refine rnd_ret ?_
              refine blk_ret ?_
              refine fin_ret3 rfl rfl rfl rfl ?_
              rw [hnum]
              exact ⟨rfl, H3⟩
            · skip
              refine ops_yes rfl ?_
              refine ops_val (ex_pick_t rfl rfl) ?_
              refine ops_val (ex_pick_f rfl rfl) ?_
              refine ops_nil ?_
              refine nR66 ?_
              refine run_cond_false rfl ?_
              refine run_skip ?_
              refine run_seq ?_
              refine run_region ?_
              refine ops_val (ex_move rfl) ?_
              refine ops_val (ex_move rfl) ?_
              refine ops_val (ex_rem rfl rfl (by omega) (tmodN cc 128)) ?_
              refine ops_val (ex_conv Tryz.underlying136 Tryz.underlying5 rfl (IntWalk.u64_in _ (by omega))) ?_
              refine nO66 ?_
              refine ops_val (ex_move rfl) ?_
              refine ops_val (ex_mul rfl rfl (IntWalk.i64_in _ (by omega))) ?_
              refine ops_val (ex_shl rfl rfl (by omega) (shl7 (by omega) (by omega) (by omega))) ?_
              refine ops_val (ex_add rfl rfl (add_place (by omega) (by omega) (by omega) hv)) ?_
              refine nO66 ?_
              refine ops_val (ex_assign rfl) ?_
              refine ops_nil ?_
              refine nR66 ?_
              refine run_seq ?_
              refine run_region ?_
              refine ops_val (ex_move rfl) ?_
              refine ops_test (ex_lss rfl rfl) (fun hp57 => ?_) (fun hp57 => ?_)
              · rw [if_neg (by omega), if_neg (by omega)] at hnum
                refine ops_nil ?_
                refine nR66 ?_
                refine run_cond_true rfl ?_
                refine run_seq ?_
                refine run_still mixed (by kernel_rfl) ?_
                rintro w4 hw4
                have H4 := Hp.drew H3; rw [← hw4] at H4
                refine still_val (ex_move rfl) ?_
                refine still_val (ex_move rfl) ?_
                refine still_val (ex_nilCheck rfl) ?_
                refine still_val (ex_fieldAddr fl125_1 rfl) ?_
                refine nS66 ?_
                refine still_val (ex_load ty3 rfl (H4.cell (i := 0) rfl rfl)) ?_
                refine still_val (ex_move rfl) ?_
                refine still_val (ex_add rfl rfl (IntWalk.i64_in _ (by omega))) ?_
                refine still_val (ex_add rfl rfl ((IntWalk.i64_in _ (by omega)).trans (show ((i : Int) + (k : Int) + 1) = ((i + (k + 1) : Nat) : Int) by omega))) ?_
                refine nS66 ?_
                refine still_val (ex_assign rfl) ?_
                refine still_val (ex_assign rfl) ?_
                refine still_val (ex_assign rfl) ?_
                refine still_nil ?_
                refine nR66 ?_
                refine run_ret ?_
                refine blk_ret ?_
                refine rnd_ret ?_
                refine blk_ret ?_
                refine fin_ret3 rfl rfl rfl rfl ?_
                rw [hnum]
                exact ⟨rfl, H4⟩
              · rw [if_pos (by omega)] at hnum
                refine ops_nil ?_
                refine nR66 ?_
                refine run_cond_false rfl ?_
                refine run_skip ?_
                refine run_nil (blk_normal ?_)
                refine run_region ?_
                refine ops_val (ex_move rfl) ?_
                refine ops_val (ex_add rfl rfl (IntWalk.i64_in _ (by omega))) ?_
                refine ops_val (ex_assign rfl) ?_
                refine ops_nil ?_
                refine nR66 ?_
                refine run_nil (rnd_normal ?_)
                exact ⟨b.length - (i + (k + 1)), by omega, k + 1, v + cc % 128 * 2 ^ (7 * k), _, _, rfl, (fs (fn (fn (fn (fn (fs (fs (fn (fn (fn (fn (fn (fn (fn (fn (fn (fn (fn (fn (fn (fn (fn (fn (fn (fn (fn (fn (fn (fn (fn (fn (fn (fn (fn (fn (fn (fn (fn (fn (fn (fn (fn (fn (fn (fn (fn (fn (fn (fn (fn (fn (fn (fn (fn (fn (fn (fn (fn (fn (fn (fn (fn (fn (fn (fn (fn f0)))))))))))))))))))))))))))))))))))))))))))))))))))))))))))))))))), rfl, by omega, by omega, by omega, place_next (by omega) hv, hnum, H3⟩
          · skip
            refine ops_yes rfl ?_
            refine ops_val (ex_move rfl) ?_
            refine nO66 ?_
            refine ops_no rfl ?_
            refine ops_no rfl ?_
            refine nO66 ?_
            refine ops_yes rfl ?_
            refine ops_val (ex_pick_f rfl rfl) ?_
            refine ops_val (ex_pick_f rfl rfl) ?_
            refine ops_nil ?_
            refine nR66 ?_
            refine run_cond_false rfl ?_
            refine run_skip ?_
            refine run_seq ?_
            refine run_region ?_
            refine ops_val (ex_move rfl) ?_
            refine ops_val (ex_move rfl) ?_
            refine ops_val (ex_rem rfl rfl (by omega) (tmodN cc 128)) ?_
            refine ops_val (ex_conv Tryz.underlying136 Tryz.underlying5 rfl (IntWalk.u64_in _ (by omega))) ?_
            refine nO66 ?_
            refine ops_val (ex_move rfl) ?_
            refine ops_val (ex_mul rfl rfl (IntWalk.i64_in _ (by omega))) ?_
            refine ops_val (ex_shl rfl rfl (by omega) (shl7 (by omega) (by omega) (by omega))) ?_
            refine ops_val (ex_add rfl rfl (add_place (by omega) (by omega) (by omega) hv)) ?_
            refine nO66 ?_
            refine ops_val (ex_assign rfl) ?_
            refine ops_nil ?_
            refine nR66 ?_
            refine run_seq ?_
            refine run_region ?_
            refine ops_val (ex_move rfl) ?_
            refine ops_test (ex_lss rfl rfl) (fun hp57 => ?_) (fun hp57 => ?_)
            · rw [if_neg (by omega), if_neg (by omega)] at hnum
              refine ops_nil ?_
              refine nR66 ?_
              refine run_cond_true rfl ?_
              refine run_seq ?_
              refine run_still mixed (by kernel_rfl) ?_
              rintro w4 hw4
              have H4 := Hp.drew H3; rw [← hw4] at H4
              refine still_val (ex_move rfl) ?_
              refine still_val (ex_move rfl) ?_
              refine still_val (ex_nilCheck rfl) ?_
              refine still_val (ex_fieldAddr fl125_1 rfl) ?_
              refine nS66 ?_
              refine still_val (ex_load ty3 rfl (H4.cell (i := 0) rfl rfl)) ?_
              refine still_val (ex_move rfl) ?_
              refine still_val (ex_add rfl rfl (IntWalk.i64_in _ (by omega))) ?_
              refine still_val (ex_add rfl rfl ((IntWalk.i64_in _ (by omega)).trans (show ((i : Int) + (k : Int) + 1) = ((i + (k + 1) : Nat) : Int) by omega))) ?_
              refine nS66 ?_
              refine still_val (ex_assign rfl) ?_
              refine still_val (ex_assign rfl) ?_
              refine still_val (ex_assign rfl) ?_
              refine still_nil ?_
              refine nR66 ?_
              refine run_ret ?_
              refine blk_ret ?_
              refine rnd_ret ?_
              refine blk_ret ?_
              refine fin_ret3 rfl rfl rfl rfl ?_
              rw [hnum]
              exact ⟨rfl, H4⟩
            · rw [if_pos (by omega)] at hnum
              refine ops_nil ?_
              refine nR66 ?_
              refine run_cond_false rfl ?_
              refine run_skip ?_
              refine run_nil (blk_normal ?_)
              refine run_region ?_
              refine ops_val (ex_move rfl) ?_
              refine ops_val (ex_add rfl rfl (IntWalk.i64_in _ (by omega))) ?_
              refine ops_val (ex_assign rfl) ?_
              refine ops_nil ?_
              refine nR66 ?_
              refine run_nil (rnd_normal ?_)
              exact ⟨b.length - (i + (k + 1)), by omega, k + 1, v + cc % 128 * 2 ^ (7 * k), _, _, rfl, (fs (fn (fn (fn (fn (fs (fs (fn (fn (fn (fn (fn (fn (fn (fn (fn (fn (fn (fn (fn (fn (fn (fn (fn (fn (fn (fn (fn (fn (fn (fn (fn (fn (fn (fn (fn (fn (fn (fn (fn (fn (fn (fn (fn (fn (fn (fn (fn (fn (fn (fn (fn (fn (fn (fn (fn (fn (fn (fn (fn (fn (fn (fn (fn (fn (fn f0)))))))))))))))))))))))))))))))))))))))))))))))))))))))))))))))))), rfl, by omega, by omega, by omega, place_next (by omega) hv, hnum, H3⟩
      · have h9 : k ≠ 9 := by omega
        rw [if_neg (by omega)] at hnum
        refine ops_val (ex_move rfl) ?_
        refine nO66 ?_
        refine ops_no rfl ?_
        refine ops_no rfl ?_
        refine ops_val (ex_pick_f rfl rfl) ?_
        refine ops_val (ex_move rfl) ?_
        refine nO66 ?_
        refine ops_yes rfl ?_
        refine ops_val (ex_move rfl) ?_
        refine ops_yes rfl ?_
        refine ops_test (ex_gtr rfl rfl) (fun hp42 => ?_) (fun hp42 => ?_)
        · skip
          refine ops_yes rfl ?_
          refine ops_val (ex_move rfl) ?_
          refine nO66 ?_
          refine ops_yes rfl ?_
          refine ops_val (ex_move rfl) ?_
          refine ops_yes rfl ?_
          refine ops_test (ex_eql rfl rfl) (fun hp45 => ?_) (fun hp45 => ?_)
          · rw [if_neg (by omega), if_pos ⟨by omega, by omega⟩] at hnum
            refine ops_yes rfl ?_
            refine ops_val (ex_pick_t rfl rfl) ?_
            refine ops_val (ex_pick_f rfl rfl) ?_
            refine ops_nil ?_
            refine nR66 ?_
            refine run_cond_true rfl ?_
            refine run_seq ?_
            refine run_region ?_
            refine ops_val (ex_assign rfl) ?_
            refine ops_val (ex_assign rfl) ?_
            refine ops_val (ex_assign rfl) ?_
            refine ops_nil ?_
            refine nR66 ?_
            refine run_ret ?_
            refine blk_ret ?_
            refine rnd_ret ?_
            refine blk_ret ?_
            refine fin_ret3 rfl rfl rfl rfl ?_
            rw [hnum]
            exact ⟨rfl, H3⟩
          · skip
            refine ops_yes rfl ?_
            refine ops_val (ex_pick_t rfl rfl) ?_
            refine ops_val (ex_pick_f rfl rfl) ?_
            refine ops_nil ?_
            refine nR66 ?_
            refine run_cond_false rfl ?_
            refine run_skip ?_
            refine run_seq ?_
            refine run_region ?_
            refine ops_val (ex_move rfl) ?_
            refine ops_val (ex_move rfl) ?_
            refine ops_val (ex_rem rfl rfl (by omega) (tmodN cc 128)) ?_
            refine ops_val (ex_conv Tryz.underlying136 Tryz.underlying5 rfl (IntWalk.u64_in _ (by omega))) ?_
            refine nO66 ?_
            refine ops_val (ex_move rfl) ?_
            refine ops_val (ex_mul rfl rfl (IntWalk.i64_in _ (by omega))) ?_
            refine ops_val (ex_shl rfl rfl (by omega) (shl7 (by omega) (by omega) (by omega))) ?_
            refine ops_val (ex_add rfl rfl (add_place (by omega) (by omega) (by omega) hv)) ?_
            refine nO66 ?_
            refine ops_val (ex_assign rfl) ?_
            refine ops_nil ?_
            refine nR66 ?_
            refine run_seq ?_
            refine run_region ?_
            refine ops_val (ex_move rfl) ?_
            refine ops_test (ex_lss rfl rfl) (fun hp57 => ?_) (fun hp57 => ?_)
            · rw [if_neg (by omega), if_neg (by omega)] at hnum
              refine ops_nil ?_
              refine nR66 ?_
              refine run_cond_true rfl ?_
              refine run_seq ?_
              refine run_still mixed (by kernel_rfl) ?_
              rintro w4 hw4
              have H4 := Hp.drew H3; rw [← hw4] at H4
              refine still_val (ex_move rfl) ?_
              refine still_val (ex_move rfl) ?_
              refine still_val (ex_nilCheck rfl) ?_
              refine still_val (ex_fieldAddr fl125_1 rfl) ?_
              refine nS66 ?_
              refine still_val (ex_load ty3 rfl (H4.cell (i := 0) rfl rfl)) ?_
              refine still_val (ex_move rfl) ?_
              refine still_val (ex_add rfl rfl (IntWalk.i64_in _ (by omega))) ?_
              refine still_val (ex_add rfl rfl ((IntWalk.i64_in _ (by omega)).trans (show ((i : Int) + (k : Int) + 1) = ((i + (k + 1) : Nat) : Int) by omega))) ?_
              refine nS66 ?_
              refine still_val (ex_assign rfl) ?_
              refine still_val (ex_assign rfl) ?_
              refine still_val (ex_assign rfl) ?_
              refine still_nil ?_
              refine nR66 ?_
              refine run_ret ?_
              refine blk_ret ?_
              refine rnd_ret ?_
              refine blk_ret ?_
              refine fin_ret3 rfl rfl rfl rfl ?_
              rw [hnum]
              exact ⟨rfl, H4⟩
            · rw [if_pos (by omega)] at hnum
              refine ops_nil ?_
              refine nR66 ?_
              refine run_cond_false rfl ?_
              refine run_skip ?_
              refine run_nil (blk_normal ?_)
              refine run_region ?_
              refine ops_val (ex_move rfl) ?_
              refine ops_val (ex_add rfl rfl (IntWalk.i64_in _ (by omega))) ?_
              refine ops_val (ex_assign rfl) ?_
              refine ops_nil ?_
              refine nR66 ?_
              refine run_nil (rnd_normal ?_)
              exact ⟨b.length - (i + (k + 1)), by omega, k + 1, v + cc % 128 * 2 ^ (7 * k), _, _, rfl, (fs (fn (fn (fn (fn (fs (fs (fn (fn (fn (fn (fn (fn (fn (fn (fn (fn (fn (fn (fn (fn (fn (fn (fn (fn (fn (fn (fn (fn (fn (fn (fn (fn (fn (fn (fn (fn (fn (fn (fn (fn (fn (fn (fn (fn (fn (fn (fn (fn (fn (fn (fn (fn (fn (fn (fn (fn (fn (fn (fn (fn (fn (fn (fn (fn (fn f0)))))))))))))))))))))))))))))))))))))))))))))))))))))))))))))))))), rfl, by omega, by omega, by omega, place_next (by omega) hv, hnum, H3⟩
        · skip
          refine ops_yes rfl ?_
          refine ops_val (ex_move rfl) ?_
          refine nO66 ?_
          refine ops_no rfl ?_
          refine ops_no rfl ?_
          refine nO66 ?_
          refine ops_yes rfl ?_
          refine ops_val (ex_pick_f rfl rfl) ?_
          refine ops_val (ex_pick_f rfl rfl) ?_
          refine ops_nil ?_
          refine nR66 ?_
          refine run_cond_false rfl ?_
          refine run_skip ?_
          refine run_seq ?_
          refine run_region ?_
          refine ops_val (ex_move rfl) ?_
          refine ops_val (ex_move rfl) ?_
          refine ops_val (ex_rem rfl rfl (by omega) (tmodN cc 128)) ?_
          refine ops_val (ex_conv Tryz.underlying136 Tryz.underlying5 rfl (IntWalk.u64_in _ (by omega))) ?_
          refine nO66 ?_
          refine ops_val (ex_move rfl) ?_
          refine ops_val (ex_mul rfl rfl (IntWalk.i64_in _ (by omega))) ?_
          refine ops_val (ex_shl rfl rfl (by omega) (shl7 (by omega) (by omega) (by omega))) ?_
          refine ops_val (ex_add rfl rfl (add_place (by omega) (by omega) (by omega) hv)) ?_
          refine nO66 ?_
          refine ops_val (ex_assign rfl) ?_
          refine ops_nil ?_
          refine nR66 ?_
          refine run_seq ?_
          refine run_region ?_
          refine ops_val (ex_move rfl) ?_
          refine ops_test (ex_lss rfl rfl) (fun hp57 => ?_) (fun hp57 => ?_)
          · rw [if_neg (by omega), if_neg (by omega)] at hnum
            refine ops_nil ?_
            refine nR66 ?_
            refine run_cond_true rfl ?_
            refine run_seq ?_
            refine run_still mixed (by kernel_rfl) ?_
            rintro w4 hw4
            have H4 := Hp.drew H3; rw [← hw4] at H4
            refine still_val (ex_move rfl) ?_
            refine still_val (ex_move rfl) ?_
            refine still_val (ex_nilCheck rfl) ?_
            refine still_val (ex_fieldAddr fl125_1 rfl) ?_
            refine nS66 ?_
            refine still_val (ex_load ty3 rfl (H4.cell (i := 0) rfl rfl)) ?_
            refine still_val (ex_move rfl) ?_
            refine still_val (ex_add rfl rfl (IntWalk.i64_in _ (by omega))) ?_
            refine still_val (ex_add rfl rfl ((IntWalk.i64_in _ (by omega)).trans (show ((i : Int) + (k : Int) + 1) = ((i + (k + 1) : Nat) : Int) by omega))) ?_
            refine nS66 ?_
            refine still_val (ex_assign rfl) ?_
            refine still_val (ex_assign rfl) ?_
            refine still_val (ex_assign rfl) ?_
            refine still_nil ?_
            refine nR66 ?_
            refine run_ret ?_
            refine blk_ret ?_
            refine rnd_ret ?_
            refine blk_ret ?_
            refine fin_ret3 rfl rfl rfl rfl ?_
            rw [hnum]
            exact ⟨rfl, H4⟩
          · rw [if_pos (by omega)] at hnum
            refine ops_nil ?_
            refine nR66 ?_
            refine run_cond_false rfl ?_
            refine run_skip ?_
            refine run_nil (blk_normal ?_)
            refine run_region ?_
            refine ops_val (ex_move rfl) ?_
            refine ops_val (ex_add rfl rfl (IntWalk.i64_in _ (by omega))) ?_
            refine ops_val (ex_assign rfl) ?_
            refine ops_nil ?_
            refine nR66 ?_
            refine run_nil (rnd_normal ?_)
            exact ⟨b.length - (i + (k + 1)), by omega, k + 1, v + cc % 128 * 2 ^ (7 * k), _, _, rfl, (fs (fn (fn (fn (fn (fs (fs (fn (fn (fn (fn (fn (fn (fn (fn (fn (fn (fn (fn (fn (fn (fn (fn (fn (fn (fn (fn (fn (fn (fn (fn (fn (fn (fn (fn (fn (fn (fn (fn (fn (fn (fn (fn (fn (fn (fn (fn (fn (fn (fn (fn (fn (fn (fn (fn (fn (fn (fn (fn (fn (fn (fn (fn (fn (fn (fn f0)))))))))))))))))))))))))))))))))))))))))))))))))))))))))))))))))), rfl, by omega, by omega, by omega, place_next (by omega) hv, hnum, H3⟩
set_option maxRecDepth 100000 in
set_option maxHeartbeats 4000000 in
theorem numW_rd (gw : Nat) (A : Option Addr) (c : Nat) (b : List UInt8) (i e : Nat) (w0 : World) (hR : Rdw w0 gw A c b i e) :
    Does Tryz.prog 100 #[.pointer (some ⟨gw, 0, none⟩)] w0 (fun r w' => r = .int .u64 ((numStep b i e).1 : Int) ∧ Hp w0 w' [gw] [(some gw, 125, rc A b c ((numStep b i e).2.1) ((numStep b i e).2.2))]) := by
  refine does_of Tryz.func100 Tryz.ntmps100 rfl ?_
  refine nR27 ?_
  have H := Hp.old hR.row
  have hle := hR.le
  have hln := hR.len
  have hcp := hR.cap
  refine run_seq ?_
  refine run_region ?_
  refine ops_val (ex_assign rfl) ?_
  refine ops_nil ?_
  refine nR27 ?_
  refine run_seq ?_
  refine run_seq ?_
  refine run_region ?_
  refine ops_val (ex_move rfl) ?_
  refine ops_val (ex_nilCheck rfl) ?_
  refine ops_val (ex_fieldAddr fl125_2 rfl) ?_
  refine ops_val (ex_load ty32 rfl (H.cell (i := 0) rfl rfl)) ?_
  refine nO27 ?_
  refine ops_test (ex_neq rfl rfl) (fun hp10 => ?_) (fun hp10 => ?_)
  · have he : e ≠ 0 := by omega
    refine ops_nil ?_
    refine nR27 ?_
    refine run_cond_true rfl ?_
    refine run_seq ?_
    refine run_region ?_
    refine ops_val (ex_assign rfl) ?_
    refine ops_nil ?_
    refine nR27 ?_
    refine run_ret ?_
    refine fin_ret1 rfl rfl ?_
    have hs : numStep b i e = (0, i, e) := if_neg he
    rw [hs]
    exact ⟨rfl, H⟩
  · have he : e = 0 := by omega
    subst he
    refine ops_nil ?_
    refine nR27 ?_
    refine run_cond_false rfl ?_
    refine run_skip ?_
    refine run_seq ?_
    refine run_region ?_
    refine ops_val (ex_move rfl) ?_
    obtain ⟨n1, n2, n3, hN⟩ : ∃ x y z, numOf (b.drop i) = (x, y, z) := ⟨_, _, _, rfl⟩
    have hbd := numOf_bd (b.drop i)
    have hs : numStep b i 0 = ((numOf (b.drop i)).1, i + (numOf (b.drop i)).2.1, (numOf (b.drop i)).2.2) := if_pos rfl
    have hk := numberW_any gw A c b i 0 _ (hR.to0 (Hp.refl _))
    rw [hN] at hk hbd hs
    dsimp only at hk hbd hs
    rw [List.length_drop] at hbd
    refine ops_call_val (ex_call gf109 rfl) hk ?_
    intro w1 Hd
    have H1 := H.call1 (i := 0) rfl Hd
    replace H1 := H1.pick [1] (by decide)
    have hR2 := hR.next (Hd) hle
    refine ops_val (ex_move rfl) ?_
    refine ops_val (ex_extract rfl rfl) ?_
    refine nO27 ?_
    refine ops_val (ex_extract rfl rfl) ?_
    refine ops_val (ex_extract rfl rfl) ?_
    refine ops_val (ex_assign rfl) ?_
    refine ops_val (ex_assign rfl) ?_
    refine nO27 ?_
    refine ops_val (ex_assign rfl) ?_
    refine ops_nil ?_
    refine nR27 ?_
    refine run_seq ?_
    refine run_seq ?_
    refine run_region ?_
    refine ops_val (ex_move rfl) ?_
    refine ops_test (ex_neq rfl rfl) (fun hp18 => ?_) (fun hp18 => ?_)
    · have h3 : n3 ≠ 0 := by omega
      obtain ⟨z1, z2⟩ := hbd.2.2.2.2.1 h3
      subst z1; subst z2
      refine ops_nil ?_
      refine nR27 ?_
      refine run_cond_true rfl ?_
      refine run_seq ?_
      refine run_region ?_
      refine ops_val (ex_move rfl) ?_
      refine ops_val (ex_move rfl) ?_
      refine ops_call (ex_call gf98 rfl) (failW_any gw A c b _ _ _ hR2 n3) ?_
      intro rz w2 Hd
      have H2 := H1.call1 (i := 0) rfl Hd
      replace H2 := H2.pick [1] (by decide)
      refine ops_nil ?_
      refine nR27 ?_
      refine run_seq ?_
      refine run_region ?_
      refine ops_val (ex_assign rfl) ?_
      refine ops_nil ?_
      refine nR27 ?_
      refine run_ret ?_
      refine fin_ret1 rfl rfl ?_
      rw [hs]
      exact ⟨rfl, H2⟩
    · have h3 : n3 = 0 := by omega
      subst h3
      refine ops_nil ?_
      refine nR27 ?_
      refine run_cond_false rfl ?_
      refine run_skip ?_
      refine run_seq ?_
      refine run_region ?_
      refine ops_val (ex_move rfl) ?_
      refine ops_val (ex_move rfl) ?_
      refine ops_val (ex_nilCheck rfl) ?_
      refine ops_val (ex_fieldAddr fl125_1 rfl) ?_
      refine nO27 ?_
      refine ops_store1 ty3 H1 0 rfl rfl rfl rfl (by first | decide | simp) rfl ?_
      intro w2 H2
      refine ops_nil ?_
      refine nR27 ?_
      refine run_seq ?_
      refine run_region ?_
      refine ops_val (ex_move rfl) ?_
      refine ops_val (ex_assign rfl) ?_
      refine ops_nil ?_
      refine nR27 ?_
      refine run_ret ?_
      refine fin_ret1 rfl rfl ?_
      rw [hs]
      exact ⟨rfl, H2⟩
set_option maxRecDepth 100000 in
set_option maxHeartbeats 4000000 in
theorem intW_rd (gw : Nat) (A : Option Addr) (c : Nat) (b : List UInt8) (i e : Nat) (w0 : World) (hR : Rdw w0 gw A c b i e) :
    Does Tryz.prog 78 #[.pointer (some ⟨gw, 0, none⟩)] w0 (fun r w' => r = .int .i64 (unz (numStep b i e).1) ∧ Hp w0 w' [gw] [(some gw, 125, rc A b c ((numStep b i e).2.1) ((numStep b i e).2.2))]) := by
  refine does_of Tryz.func78 Tryz.ntmps78 rfl ?_
  refine nR17 ?_
  have hlt := numStep_lt b i e
  refine run_seq ?_
  refine run_region ?_
  refine ops_val (ex_assign rfl) ?_
  refine ops_nil ?_
  refine nR17 ?_
  refine run_seq ?_
  refine run_region ?_
  refine ops_val (ex_move rfl) ?_
  refine ops_call_val (ex_call gf100 rfl) (numW_rd gw A c b i e _ hR) ?_
  intro w1 H1
  have hu : unz (numStep b i e).1 = if (numStep b i e).1 % 2 = 1 then -(((numStep b i e).1 / 2 : Nat) : Int) - 1 else (((numStep b i e).1 / 2 : Nat) : Int) := rfl
  generalize hN : (numStep b i e).1 = N at hlt hu
  refine ops_val (ex_assign rfl) ?_
  refine ops_nil ?_
  refine nR17 ?_
  refine run_seq ?_
  refine run_seq ?_
  refine run_region ?_
  refine ops_val (ex_move rfl) ?_
  refine ops_val (ex_rem rfl rfl (by omega) (tmodN N 2)) ?_
  refine ops_test (ex_eql rfl rfl) (fun hp8 => ?_) (fun hp8 => ?_)
  · rw [if_pos (by omega)] at hu
    refine ops_nil ?_
    refine nR17 ?_
    refine run_cond_true rfl ?_
    refine run_seq ?_
    refine run_region ?_
    refine ops_val (ex_move rfl) ?_
    refine ops_val (ex_quo rfl rfl (by omega) (tdivN .u64 N 2 (IntWalk.u64_in _ (by omega)))) ?_
    refine ops_val (ex_conv Tryz.underlying3 Tryz.underlying136 rfl (IntWalk.i64_in _ (by omega))) ?_
    refine ops_val (ex_neg rfl ((IntWalk.i64_in _ (by omega)).trans (show (0 : Int) - ((N / 2 : Nat) : Int) = -((N / 2 : Nat) : Int) by omega))) ?_
    refine nO17 ?_
    refine ops_val (ex_sub rfl rfl (IntWalk.i64_in _ (by omega))) ?_
    refine ops_val (ex_assign rfl) ?_
    refine ops_nil ?_
    refine nR17 ?_
    refine run_ret ?_
    refine fin_ret1 rfl rfl ?_
    exact ⟨by rw [hu], H1⟩
  · rw [if_neg (by omega)] at hu
    refine ops_nil ?_
    refine nR17 ?_
    refine run_cond_false rfl ?_
    refine run_skip ?_
    refine run_seq ?_
    refine run_region ?_
    refine ops_val (ex_move rfl) ?_
    refine ops_val (ex_quo rfl rfl (by omega) (tdivN .u64 N 2 (IntWalk.u64_in _ (by omega)))) ?_
    refine ops_val (ex_conv Tryz.underlying3 Tryz.underlying136 rfl (IntWalk.i64_in _ (by omega))) ?_
    refine ops_val (ex_assign rfl) ?_
    refine ops_nil ?_
    refine nR17 ?_
    refine run_ret ?_
    refine fin_ret1 rfl rfl ?_
    exact ⟨by rw [hu], H1⟩
set_option maxRecDepth 100000 in
set_option maxHeartbeats 4000000 in
theorem byteW_rd (gw : Nat) (A : Option Addr) (c : Nat) (b : List UInt8) (i e : Nat) (w0 : World) (hR : Rdw w0 gw A c b i e) :
    Does Tryz.prog 97 #[.pointer (some ⟨gw, 0, none⟩)] w0 (fun r w' => r = .int .u8 ((byteStep b i e).1 : Int) ∧ Hp w0 w' [gw] [(some gw, 125, rc A b c ((byteStep b i e).2.1) ((byteStep b i e).2.2))]) := by
  refine does_of Tryz.func97 Tryz.ntmps97 rfl ?_
  refine nR38 ?_
  have H := Hp.old hR.row
  have hle := hR.le
  have hln := hR.len
  have hcp := hR.cap
  refine run_seq ?_
  refine run_region ?_
  refine ops_val (ex_assign rfl) ?_
  refine ops_nil ?_
  refine nR38 ?_
  refine run_seq ?_
  refine run_seq ?_
  refine run_region ?_
  refine ops_val (ex_move rfl) ?_
  refine ops_val (ex_nilCheck rfl) ?_
  refine ops_val (ex_fieldAddr fl125_2 rfl) ?_
  refine ops_val (ex_load ty32 rfl (H.cell (i := 0) rfl rfl)) ?_
  refine nO38 ?_
  refine ops_test (ex_neq rfl rfl) (fun hp7 => ?_) (fun hp7 => ?_)
  · have he : e ≠ 0 := by omega
    refine ops_nil ?_
    refine nR38 ?_
    refine run_cond_true rfl ?_
    refine run_seq ?_
    refine run_region ?_
    refine ops_val (ex_assign rfl) ?_
    refine ops_nil ?_
    refine nR38 ?_
    refine run_ret ?_
    refine fin_ret1 rfl rfl ?_
    have hs : byteStep b i e = (0, i, e) := if_neg he
    rw [hs]
    exact ⟨rfl, H⟩
  · have he : e = 0 := by omega
    subst he
    refine ops_nil ?_
    refine nR38 ?_
    refine run_cond_false rfl ?_
    refine run_skip ?_
    refine run_seq ?_
    refine run_seq ?_
    refine run_still mixed (by kernel_rfl) ?_
    rintro w1 hw1
    have H1 := Hp.drew H; rw [← hw1] at H1
    refine still_val (ex_move rfl) ?_
    refine still_val (ex_nilCheck rfl) ?_
    refine still_val (ex_fieldAddr fl125_1 rfl) ?_
    refine still_val (ex_load ty3 rfl (H1.cell (i := 0) rfl rfl)) ?_
    refine nS38 ?_
    refine still_val (ex_move rfl) ?_
    refine still_val (ex_nilCheck rfl) ?_
    refine still_val (ex_fieldAddr fl125_0 rfl) ?_
    refine still_val (ex_load ty29 rfl (H1.cell (i := 0) rfl rfl)) ?_
    refine nS38 ?_
    refine still_val (ex_len_slice Tryz.underlying29 rfl) ?_
    refine still_test (ex_geq rfl rfl) (fun hp17 => ?_) (fun hp17 => ?_)
    · have hnil : b.drop i = [] := List.drop_eq_nil_of_le (by omega)
      refine still_nil ?_
      refine nR38 ?_
      refine run_cond_true rfl ?_
      refine run_seq ?_
      refine run_region ?_
      have hD := (Hp.refl w0).drew
      rw [← hw1] at hD
      refine ops_val (ex_move rfl) ?_
      refine ops_call (ex_call gf98 rfl) (failW_any gw A c b _ _ _ (hR.to0 hD) 20) ?_
      intro rz w2 Hd
      have H2 := H1.call1 (i := 0) rfl Hd
      replace H2 := H2.pick [1] (by decide)
      refine ops_nil ?_
      refine nR38 ?_
      refine run_seq ?_
      refine run_region ?_
      refine ops_val (ex_assign rfl) ?_
      refine ops_nil ?_
      refine nR38 ?_
      refine run_ret ?_
      refine fin_ret1 rfl rfl ?_
      have hs : byteStep b i 0 = (0, i, 20) := by unfold byteStep; rw [if_pos rfl, hnil]; rfl
      rw [hs]
      exact ⟨rfl, H2⟩
    · have hib : i < b.length := by omega
      obtain ⟨a, rfl⟩ := hR.rd.some_ (by omega)
      refine still_nil ?_
      refine nR38 ?_
      refine run_cond_false rfl ?_
      refine run_skip ?_
      refine run_seq ?_
      refine run_region ?_
      refine ops_val (ex_move rfl) ?_
      refine ops_val (ex_nilCheck rfl) ?_
      refine ops_val (ex_fieldAddr fl125_1 rfl) ?_
      refine ops_val (ex_load ty3 rfl (H1.cell (i := 0) rfl rfl)) ?_
      refine nO38 ?_
      refine ops_val (ex_add rfl rfl ((IntWalk.i64_in _ (by omega)).trans (show ((i : Int) + 1) = ((i + 1 : Nat) : Int) by omega))) ?_
      refine ops_val (ex_nilCheck rfl) ?_
      refine ops_val (ex_fieldAddr fl125_1 rfl) ?_
      refine ops_store1 ty3 H1 0 rfl rfl rfl rfl (by first | decide | simp) rfl ?_
      intro w2 H2
      refine ops_nil ?_
      refine nR38 ?_
      refine run_seq ?_
      refine run_still mixed (by kernel_rfl) ?_
      rintro w3 hw3
      have H3 := Hp.drew H2; rw [← hw3] at H3
      refine still_val (ex_move rfl) ?_
      refine still_val (ex_nilCheck rfl) ?_
      refine still_val (ex_fieldAddr fl125_0 rfl) ?_
      refine still_val (ex_load ty29 rfl (H3.cell (i := 0) rfl rfl)) ?_
      refine nS38 ?_
      refine still_val (ex_move rfl) ?_
      refine still_val (ex_nilCheck rfl) ?_
      refine still_val (ex_fieldAddr fl125_1 rfl) ?_
      refine still_val (ex_load ty3 rfl (H3.cell (i := 0) rfl rfl)) ?_
      refine nS38 ?_
      refine still_val (ex_sub rfl rfl ((IntWalk.i64_in _ (by omega)).trans (show (((i + 1 : Nat) : Int) - 1) = (i : Int) by omega))) ?_
      refine still_val (ex_idx Tryz.underlying29 ty5 rfl rfl rfl hib (Nat.mul_one _)) ?_
      refine still_val (ex_load ty5 rfl ((hR.rd_in H3).cells a rfl i (.int .u8 (b[i].toNat : Int)) (u8s_get hib))) ?_
      refine still_val (ex_assign rfl) ?_
      refine still_nil ?_
      refine nR38 ?_
      refine run_ret ?_
      refine fin_ret1 rfl rfl ?_
      have hs : byteStep b i 0 = (b[i].toNat, i + 1, 0) := by unfold byteStep; rw [if_pos rfl, List.drop_eq_getElem_cons hib]; rfl
      rw [hs]
      exact ⟨rfl, H3⟩
theorem byteStep_le {b : List UInt8} {i e : Nat} (h : i ≤ b.length) : (byteStep b i e).2.1 ≤ b.length := by
  unfold byteStep
  split
  · have := (byteOf_bd (b.drop i)).2.1
    rw [List.length_drop] at this
    simp only; omega
  · exact h
theorem byte_ok {b : List UInt8} {i e : Nat} (h : 1 < (byteStep b i e).1) : (byteStep b i e).2.2 = 0 := by
  unfold byteStep at h ⊢
  split at h
  · rename_i he
    rw [if_pos he]
    cases hd : b.drop i with
    | nil => rw [hd] at h; simp [byteOf] at h
    | cons x t => rfl
  · simp at h
theorem flag_byte (b : List UInt8) (i e : Nat) : flagStep b i e = if 1 < (byteStep b i e).1 then (false, i, 21) else (decide (((byteStep b i e).1 : Int) = 1), (byteStep b i e).2.1, (byteStep b i e).2.2) := by
  unfold flagStep byteStep
  by_cases he : e = 0
  · simp only [he, if_true]
    cases b.drop i with
    | nil => simp [flagOf, byteOf]
    | cons x t =>
      by_cases h : 1 < x.toNat
      · simp [flagOf, byteOf, h]
      · simp only [flagOf, byteOf, h, if_false]
        exact Prod.ext (decide_eq_decide.2 (by omega)) rfl
  · simp [he]
set_option maxRecDepth 100000 in
set_option maxHeartbeats 4000000 in
theorem flagW_rd (gw : Nat) (A : Option Addr) (c : Nat) (b : List UInt8) (i e : Nat) (w0 : World) (hR : Rdw w0 gw A c b i e) :
    Does Tryz.prog 76 #[.pointer (some ⟨gw, 0, none⟩)] w0 (fun r w' => r = .bool (flagStep b i e).1 ∧ Hp w0 w' [gw] [(some gw, 125, rc A b c ((flagStep b i e).2.1) ((flagStep b i e).2.2))]) := by
  refine does_of Tryz.func76 Tryz.ntmps76 rfl ?_
  refine nR21 ?_
  have H := Hp.old hR.row
  have hle := hR.le
  have hln := hR.len
  have hcp := hR.cap
  refine run_seq ?_
  refine run_region ?_
  refine ops_val (ex_assign rfl) ?_
  refine ops_nil ?_
  refine nR21 ?_
  refine run_seq ?_
  refine run_region ?_
  refine ops_val (ex_move rfl) ?_
  refine ops_val (ex_nilCheck rfl) ?_
  refine ops_val (ex_fieldAddr fl125_1 rfl) ?_
  refine ops_val (ex_load ty3 rfl (H.cell (i := 0) rfl rfl)) ?_
  refine nO21 ?_
  refine ops_val (ex_assign rfl) ?_
  refine ops_nil ?_
  refine nR21 ?_
  refine run_seq ?_
  refine run_region ?_
  refine ops_val (ex_move rfl) ?_
  refine ops_call_val (ex_call gf97 rfl) (byteW_rd gw A c b i e _ hR) ?_
  intro w1 Hd
  have H1 := H.call1 (i := 0) rfl Hd
  replace H1 := H1.pick [1] (by decide)
  have hbs := flag_byte b i e
  have hbl : (byteStep b i e).2.1 ≤ b.length := byteStep_le hle
  have hR2 := hR.next Hd hbl
  refine ops_val (ex_assign rfl) ?_
  refine ops_nil ?_
  refine nR21 ?_
  refine run_seq ?_
  refine run_seq ?_
  refine run_region ?_
  refine ops_val (ex_move rfl) ?_
  refine ops_test (ex_gtr rfl rfl) (fun hp12 => ?_) (fun hp12 => ?_)
  · rw [if_pos (by omega)] at hbs
    have hz := byte_ok (b := b) (i := i) (e := e) (by omega)
    refine ops_nil ?_
    refine nR21 ?_
    refine run_cond_true rfl ?_
    refine run_seq ?_
    refine run_region ?_
    refine ops_val (ex_move rfl) ?_
    refine ops_val (ex_move rfl) ?_
    refine ops_val (ex_nilCheck rfl) ?_
    refine ops_val (ex_fieldAddr fl125_1 rfl) ?_
    refine nO21 ?_
    refine ops_store1 ty3 H1 0 rfl rfl rfl rfl (by first | decide | simp) rfl ?_
    intro w2 H2
    refine ops_nil ?_
    refine nR21 ?_
    refine run_seq ?_
    refine run_region ?_
    refine ops_val (ex_move rfl) ?_
    have hR3 : Rdw w2 gw A c b i (byteStep b i e).2.2 := ⟨H2.at (i := 0) rfl, hR.rd_in H2, hR.apart, hle, hR.cap, hR.len⟩
    refine ops_call (ex_call gf98 rfl) (failW_any gw A c b _ _ _ hR3 21) ?_
    intro rz w3 Hd
    have H3 := H2.call1 (i := 0) rfl Hd
    replace H3 := H3.pick [1] (by decide)
    refine ops_nil ?_
    refine nR21 ?_
    refine run_seq ?_
    refine run_region ?_
    refine ops_val (ex_assign rfl) ?_
    refine ops_nil ?_
    refine nR21 ?_
    refine run_ret ?_
    refine fin_ret1 rfl rfl ?_
    rw [hbs]
    rw [if_pos hz] at H3
    exact ⟨rfl, H3⟩
  · rw [if_neg (by omega)] at hbs
    refine ops_nil ?_
    refine nR21 ?_
    refine run_cond_false rfl ?_
    refine run_skip ?_
    refine run_seq ?_
    refine run_region ?_
    refine ops_val (ex_move rfl) ?_
    refine ops_val (ex_eql rfl rfl) ?_
    refine ops_val (ex_assign rfl) ?_
    refine ops_nil ?_
    refine nR21 ?_
    refine run_ret ?_
    refine fin_ret1 rfl rfl ?_
    rw [hbs]
    exact ⟨by simp, H1⟩
theorem numStep_le {b : List UInt8} {i e : Nat} (h : i ≤ b.length) : (numStep b i e).2.1 ≤ b.length := by
  unfold numStep
  split
  · have := (numOf_bd (b.drop i)).2.1
    rw [List.length_drop] at this
    simp only; omega
  · exact h
theorem count_num (b : List UInt8) (most : Int) (i e : Nat) : countStep b most i e = if max most 0 < ((numStep b i e).1 : Int) then (0, i, 22) else numStep b i e := by
  have hbd := numOf_bd (b.drop i)
  unfold numStep
  by_cases he : e = 0
  · simp only [he, if_true]
    by_cases h1 : (numOf (b.drop i)).2.2 = 0
    · by_cases h2 : max most 0 < ((numOf (b.drop i)).1 : Int)
      · rw [countStep_l h1 h2, if_pos h2]
      · rw [countStep_t h1 h2, if_neg h2, h1]
    · obtain ⟨a1, a2⟩ := hbd.2.2.2.2.1 h1
      rw [countStep_f h1, a1, a2, if_neg (by omega)]
      rfl
  · rw [countStep_bad he]
    simp only [he, if_false]
    rw [if_neg (by omega)]
theorem num_ok {b : List UInt8} {i e : Nat} (h : 0 < (numStep b i e).1) : (numStep b i e).2.2 = 0 := by
  have hbd := numOf_bd (b.drop i)
  unfold numStep at h ⊢
  split at h
  · rename_i he
    rw [if_pos he]
    simp only at h ⊢
    rcases Nat.eq_zero_or_pos (numOf (b.drop i)).2.2 with h1 | h1
    · exact h1
    · have := (hbd.2.2.2.2.1 (by omega)).1
      omega
  · simp at h
set_option maxRecDepth 100000 in
set_option maxHeartbeats 4000000 in
theorem countW_rd (gw : Nat) (A : Option Addr) (c : Nat) (b : List UInt8) (i e : Nat) (w0 : World) (hR : Rdw w0 gw A c b i e) (most : Int) (hlo : -9223372036854775808 ≤ most) (hhi : most ≤ 9223372036854775807) :
    Does Tryz.prog 101 #[.pointer (some ⟨gw, 0, none⟩), .int .i64 most] w0 (fun r w' => r = .int .i64 ((countStep b most i e).1 : Int) ∧ Hp w0 w' [gw] [(some gw, 125, rc A b c ((countStep b most i e).2.1) ((countStep b most i e).2.2))]) := by
  refine does_of Tryz.func101 Tryz.ntmps101 rfl ?_
  refine nR26 ?_
  have H := Hp.old hR.row
  have hle := hR.le
  have hln := hR.len
  have hcp := hR.cap
  refine run_seq ?_
  refine run_region ?_
  refine ops_val (ex_assign rfl) ?_
  refine ops_nil ?_
  refine nR26 ?_
  refine run_seq ?_
  refine run_region ?_
  refine ops_val (ex_move rfl) ?_
  refine ops_val (ex_nilCheck rfl) ?_
  refine ops_val (ex_fieldAddr fl125_1 rfl) ?_
  refine ops_val (ex_load ty3 rfl (H.cell (i := 0) rfl rfl)) ?_
  refine nO26 ?_
  refine ops_val (ex_assign rfl) ?_
  refine ops_nil ?_
  refine nR26 ?_
  refine run_seq ?_
  refine run_region ?_
  refine ops_val (ex_move rfl) ?_
  refine ops_call_val (ex_call gf100 rfl) (numW_rd gw A c b i e _ hR) ?_
  intro w1 Hd
  have H1 := H.call1 (i := 0) rfl Hd
  replace H1 := H1.pick [1] (by decide)
  have hbs := count_num b most i e
  have hlt := numStep_lt b i e
  refine ops_val (ex_assign rfl) ?_
  refine ops_nil ?_
  refine nR26 ?_
  refine run_seq ?_
  refine run_seq ?_
  refine run_region ?_
  refine ops_val (ex_move rfl) ?_
  refine ops_val (ex_move rfl) ?_
  refine ops_val (ex_max rfl rfl) ?_
  refine ops_val (ex_conv Tryz.underlying136 Tryz.underlying3 rfl (IntWalk.u64_in _ (by omega))) ?_
  refine nO26 ?_
  refine ops_test (ex_gtr rfl rfl) (fun hp17 => ?_) (fun hp17 => ?_)
  · rw [if_pos (by omega)] at hbs
    have hz := num_ok (b := b) (i := i) (e := e) (by omega)
    refine ops_nil ?_
    refine nR26 ?_
    refine run_cond_true rfl ?_
    refine run_seq ?_
    refine run_region ?_
    refine ops_val (ex_move rfl) ?_
    refine ops_val (ex_move rfl) ?_
    refine ops_val (ex_nilCheck rfl) ?_
    refine ops_val (ex_fieldAddr fl125_1 rfl) ?_
    refine nO26 ?_
    refine ops_store1 ty3 H1 0 rfl rfl rfl rfl (by first | decide | simp) rfl ?_
    intro w2 H2
    refine ops_nil ?_
    refine nR26 ?_
    refine run_seq ?_
    refine run_region ?_
    refine ops_val (ex_move rfl) ?_
    have hR3 : Rdw w2 gw A c b i (numStep b i e).2.2 := ⟨H2.at (i := 0) rfl, hR.rd_in H2, hR.apart, hle, hR.cap, hR.len⟩
    refine ops_call (ex_call gf98 rfl) (failW_any gw A c b _ _ _ hR3 22) ?_
    intro rz w3 Hd
    have H3 := H2.call1 (i := 0) rfl Hd
    replace H3 := H3.pick [1] (by decide)
    refine ops_nil ?_
    refine nR26 ?_
    refine run_seq ?_
    refine run_region ?_
    refine ops_val (ex_assign rfl) ?_
    refine ops_nil ?_
    refine nR26 ?_
    refine run_ret ?_
    refine fin_ret1 rfl rfl ?_
    rw [hbs]
    rw [if_pos hz] at H3
    exact ⟨rfl, H3⟩
  · rw [if_neg (by omega)] at hbs
    refine ops_nil ?_
    refine nR26 ?_
    refine run_cond_false rfl ?_
    refine run_skip ?_
    refine run_seq ?_
    refine run_region ?_
    refine ops_val (ex_move rfl) ?_
    refine ops_val (ex_conv Tryz.underlying3 Tryz.underlying136 rfl (IntWalk.i64_in _ (by omega))) ?_
    refine ops_val (ex_assign rfl) ?_
    refine ops_nil ?_
    refine nR26 ?_
    refine run_ret ?_
    refine fin_ret1 rfl rfl ?_
    rw [hbs]
    exact ⟨rfl, H1⟩
theorem numStep_bad {b : List UInt8} {i e : Nat} (h : (numStep b i e).2.2 ≠ 0) : (numStep b i e).2.1 = i := by
  have hbd := numOf_bd (b.drop i)
  unfold numStep at h ⊢
  split
  · rename_i he
    rw [if_pos he] at h
    have := (hbd.2.2.2.2.1 h).2
    simp only; omega
  · rfl
theorem countStep_le {b : List UInt8} {most : Int} {i e : Nat} (h : i ≤ b.length) : (countStep b most i e).2.1 ≤ b.length ∧ (countStep b most i e).1 < 2 ^ 64 ∧ ((countStep b most i e).1 : Int) ≤ max most 0 ∧ ((countStep b most i e).2.2 ≠ 0 → (countStep b most i e).2.1 = i) := by
  rw [count_num]
  have hlt := numStep_lt b i e
  have h2 := numStep_le (b := b) (e := e) h
  have h3 := @numStep_bad b i e
  split
  · simp; omega
  · exact ⟨h2, hlt, by omega, h3⟩
set_option maxRecDepth 100000 in
set_option maxHeartbeats 4000000 in
theorem textW_rd (gw : Nat) (A : Option Addr) (c : Nat) (b : List UInt8) (i e : Nat) (w0 : World) (hR : Rdw w0 gw A c b i e) (most : Int) (hlo : -9223372036854775808 ≤ most) (hhi : most ≤ 9223372036854775807) :
    Does Tryz.prog 86 #[.pointer (some ⟨gw, 0, none⟩), .int .i64 most] w0 (fun r w' => ∃ g cap sp, r = .slice (hd g) (textStep b most i e).1.length cap ∧ (textStep b most i e).1.length ≤ cap ∧ cap * 1 ≤ (u8s (textStep b most i e).1 ++ sp).length ∧ (g = none → cap = 0) ∧ Hp w0 w' [gw] [(some gw, 125, rc A b c ((textStep b most i e).2.1) ((textStep b most i e).2.2)), (g, 5, u8s (textStep b most i e).1 ++ sp)]) := by
  refine does_of Tryz.func86 Tryz.ntmps86 rfl ?_
  refine nR63 ?_
  have H := Hp.old hR.row
  have hle := hR.le
  have hln := hR.len
  have hcp := hR.cap
  refine run_seq ?_
  refine run_region ?_
  refine ops_val (ex_assign rfl) ?_
  refine ops_nil ?_
  refine nR63 ?_
  refine run_seq ?_
  refine run_region ?_
  refine ops_val (ex_move rfl) ?_
  refine ops_val (ex_nilCheck rfl) ?_
  refine ops_val (ex_fieldAddr fl125_1 rfl) ?_
  refine ops_val (ex_load ty3 rfl (H.cell (i := 0) rfl rfl)) ?_
  refine nO63 ?_
  refine ops_val (ex_assign rfl) ?_
  refine ops_nil ?_
  refine nR63 ?_
  refine run_seq ?_
  refine run_region ?_
  refine ops_val (ex_move rfl) ?_
  refine ops_val (ex_move rfl) ?_
  have hts := textStep_count b most i e
  obtain ⟨hc1, hc2, hc3, hc4⟩ := countStep_le (b := b) (most := most) (e := e) hle
  have hk := countW_rd gw A c b i e _ hR most hlo hhi
  obtain ⟨n1, n2, n3, hN⟩ : ∃ x y z, countStep b most i e = (x, y, z) := ⟨_, _, _, rfl⟩
  rw [hN] at hk hts hc1 hc2 hc3 hc4
  dsimp only at hk hts hc1 hc2 hc3 hc4
  refine ops_call_val (ex_call gf101 rfl) hk ?_
  intro w1 Hd
  have H1 := H.call1 (i := 0) rfl Hd
  replace H1 := H1.pick [1] (by decide)
  have hR2 := hR.next Hd hc1
  refine ops_val (ex_assign rfl) ?_
  refine ops_nil ?_
  refine nR63 ?_
  refine run_seq ?_
  refine run_seq ?_
  refine run_region ?_
  refine ops_val (ex_move rfl) ?_
  refine ops_val (ex_nilCheck rfl) ?_
  refine ops_val (ex_fieldAddr fl125_2 rfl) ?_
  refine ops_val (ex_load ty32 rfl (H1.cell (i := 0) rfl rfl)) ?_
  refine nO63 ?_
  refine ops_test (ex_neq rfl rfl) (fun hp18 => ?_) (fun hp18 => ?_)
  · have h3 : n3 ≠ 0 := by omega
    rw [if_pos h3] at hts
    have h5 := hc4 h3
    subst h5
    refine ops_nil ?_
    refine nR63 ?_
    refine run_cond_true rfl ?_
    refine run_seq ?_
    refine run_region ?_
    refine ops_val (ex_assign rfl) ?_
    refine ops_nil ?_
    refine nR63 ?_
    refine run_ret ?_
    refine fin_ret1 rfl rfl ?_
    rw [hts]
    exact ⟨none, 0, [], rfl, Nat.le_refl _, by simp, fun _ => rfl, H1.nil 5⟩
  · have h3 : n3 = 0 := by omega
    subst h3
    rw [if_neg (by omega)] at hts
    refine ops_nil ?_
    refine nR63 ?_
    refine run_cond_false rfl ?_
    refine run_skip ?_
    refine run_seq ?_
    refine run_seq ?_
    refine run_still mixed (by kernel_rfl) ?_
    rintro w2 hw2
    have H2 := Hp.drew H1; rw [← hw2] at H2
    refine still_val (ex_move rfl) ?_
    refine still_val (ex_move rfl) ?_
    refine still_val (ex_nilCheck rfl) ?_
    refine still_val (ex_fieldAddr fl125_0 rfl) ?_
    refine nS63 ?_
    refine still_val (ex_load ty29 rfl (H2.cell (i := 0) rfl rfl)) ?_
    refine still_val (ex_len_slice Tryz.underlying29 rfl) ?_
    refine still_val (ex_move rfl) ?_
    refine still_val (ex_nilCheck rfl) ?_
    refine nS63 ?_
    refine still_val (ex_fieldAddr fl125_1 rfl) ?_
    refine still_val (ex_load ty3 rfl (H2.cell (i := 0) rfl rfl)) ?_
    refine still_val (ex_sub rfl rfl (IntWalk.i64_in _ (by omega))) ?_
    refine still_test (ex_gtr rfl rfl) (fun hp30 => ?_) (fun hp30 => ?_)
    · rw [if_pos (by omega)] at hts
      refine still_nil ?_
      refine nR63 ?_
      refine run_cond_true rfl ?_
      refine run_seq ?_
      refine run_region ?_
      refine ops_val (ex_move rfl) ?_
      refine ops_val (ex_move rfl) ?_
      refine ops_val (ex_nilCheck rfl) ?_
      refine ops_val (ex_fieldAddr fl125_1 rfl) ?_
      refine nO63 ?_
      refine ops_store1 ty3 H2 0 rfl rfl rfl rfl (by first | decide | simp) rfl ?_
      intro w3 H3
      refine ops_nil ?_
      refine nR63 ?_
      refine run_seq ?_
      refine run_region ?_
      refine ops_val (ex_move rfl) ?_
      have hR3 : Rdw w3 gw A c b i 0 := ⟨H3.at (i := 0) rfl, hR.rd_in H3, hR.apart, hle, hR.cap, hR.len⟩
      refine ops_call (ex_call gf98 rfl) (failW_any gw A c b _ _ _ hR3 20) ?_
      intro rz w4 Hd
      have H4 := H3.call1 (i := 0) rfl Hd
      replace H4 := H4.pick [1] (by decide)
      refine ops_nil ?_
      refine nR63 ?_
      refine run_seq ?_
      refine run_region ?_
      refine ops_val (ex_assign rfl) ?_
      refine ops_nil ?_
      refine nR63 ?_
      refine run_ret ?_
      refine fin_ret1 rfl rfl ?_
      rw [hts]
      exact ⟨none, 0, [], rfl, Nat.le_refl _, by simp, fun _ => rfl, H4.nil 5⟩
    · rw [if_neg (by omega)] at hts
      refine still_nil ?_
      refine nR63 ?_
      refine run_cond_false rfl ?_
      refine run_skip ?_
      refine run_seq ?_
      refine run_region ?_
      refine ops_val (ex_move rfl) ?_
      refine ops_val (ex_move rfl) ?_
      refine ops_val (ex_nilCheck rfl) ?_
      refine ops_val (ex_fieldAddr fl125_1 rfl) ?_
      refine nO63 ?_
      refine ops_val (ex_load ty3 rfl (H2.cell (i := 0) rfl rfl)) ?_
      refine ops_val (ex_move rfl) ?_
      refine ops_val (ex_add rfl rfl ((IntWalk.i64_in _ (by omega)).trans (show ((n2 : Int) + (n1 : Int)) = ((n2 + n1 : Nat) : Int) by omega))) ?_
      refine ops_val (ex_nilCheck rfl) ?_
      refine nO63 ?_
      refine ops_val (ex_fieldAddr fl125_1 rfl) ?_
      refine ops_store1 ty3 H2 0 rfl rfl rfl rfl (by first | decide | simp) rfl ?_
      intro w3 H3
      refine ops_nil ?_
      refine nR63 ?_
      refine run_seq ?_
      refine run_mixH [(true, 1), (true, 2), (true, 3), (true, 4), (true, 5), (true, 6), (true, 7), (true, 8), (true, 9), (true, 10), (true, 11), (true, 12), (true, 13), (true, 14), (true, 15), (false, 0), (false, 16), (true, 17)] H3 [0] mixed (by decide) (by kernel_rfl) ?_
      rintro w4 hw4
      have H4 := Hp.drew H3; rw [← hw4] at H4
      refine mix_p rfl ?_
      refine mix1_val (fun wz hz => ex_move rfl) ?_
      refine mix_p rfl ?_
      refine mix1_val (fun wz hz => ex_nilCheck rfl) ?_
      refine mix_p rfl ?_
      refine mix1_val (fun wz hz => ex_fieldAddr fl125_0 rfl) ?_
      refine mix_p rfl ?_
      refine mix1_val (fun wz hz => ex_load ty29 rfl (hz.cell (i := 0) rfl rfl)) ?_
      refine nM63 ?_
      refine mix_p rfl ?_
      refine mix1_val (fun wz hz => ex_move rfl) ?_
      refine mix_p rfl ?_
      refine mix1_val (fun wz hz => ex_nilCheck rfl) ?_
      refine mix_p rfl ?_
      refine mix1_val (fun wz hz => ex_fieldAddr fl125_1 rfl) ?_
      refine mix_p rfl ?_
      refine mix1_val (fun wz hz => ex_load ty3 rfl (hz.cell (i := 0) rfl rfl)) ?_
      refine nM63 ?_
      refine mix_p rfl ?_
      refine mix1_val (fun wz hz => ex_move rfl) ?_
      refine mix_p rfl ?_
      refine mix1_val (fun wz hz => ex_sub rfl rfl ((IntWalk.i64_in _ (by omega)).trans (show (((n2 + n1 : Nat) : Int) - (n1 : Int)) = (n2 : Int) by omega))) ?_
      refine mix_p rfl ?_
      refine mix1_val (fun wz hz => ex_move rfl) ?_
      refine mix_p rfl ?_
      refine mix1_val (fun wz hz => ex_nilCheck rfl) ?_
      refine nM63 ?_
      refine mix_p rfl ?_
      refine mix1_val (fun wz hz => ex_fieldAddr fl125_1 rfl) ?_
      refine mix_p rfl ?_
      refine mix1_val (fun wz hz => ex_load ty3 rfl (hz.cell (i := 0) rfl rfl)) ?_
      refine mix_p rfl ?_
      refine mix1_val (fun wz hz => ex_cut2 Tryz.underlying29 ty5 rfl rfl rfl (by omega)) ?_
      refine mix_o rfl ?_
      refine ops_buildSlice Tryz.underlying29 ty5 H4 (cs := []) rfl (by decide) rfl ?_
      intro w5 g0 H5 hg0
      refine ops_nil ?_
      refine ⟨H5.pick [0] (by decide), ?_⟩
      refine nM63 ?_
      refine mix_o rfl ?_
      have hmd := (hR.rd_in (H5.pick [0] (by decide))).mid2 (n := n2) (v := n1) (c := c) (by omega) (by omega)
      have hml : ((b.drop n2).take n1).length = n1 := by rw [List.length_take, List.length_drop]; omega
      refine ops_append Tryz.underlying29 ty5 (by decide) H5 1 (g := some g0) (xs := []) (sp := []) rfl rfl rfl (by decide) (by decide) (by simp) rfl hmd (u8s_one' _) (by omega) (by omega) (by decide) ?_
      intro w6 g3 cap3 sp3 H6 hcap3 hmc3 hg3
      have e4 : 0 + ((((n2 + n1 : Nat) : Int)).toNat - (n2 : Int).toNat) = n1 := by omega
      rw [e4] at hmc3
      rw [e4]
      refine ops_nil ?_
      refine ⟨H6.pick [0] (by decide), ?_⟩
      refine nM63 ?_
      refine mix_p rfl ?_
      refine mix1_val (fun wz hz => ex_assign rfl) ?_
      refine mix_nil ?_
      refine nR63 ?_
      refine run_ret ?_
      refine fin_ret1 rfl rfl ?_
      rw [hts]
      dsimp only
      rw [hml]
      exact ⟨g3, cap3, sp3, rfl, hmc3, hcap3, hg3, H6⟩
set_option maxRecDepth 100000 in
set_option maxHeartbeats 4000000 in
theorem endW_rd (gw : Nat) (A : Option Addr) (c : Nat) (b : List UInt8) (i e : Nat) (w0 : World) (hR : Rdw w0 gw A c b i e) :
    Does Tryz.prog 21 #[.pointer (some ⟨gw, 0, none⟩)] w0 (fun r w' => r = .int .i64 ((if e = 0 ∧ i < b.length then 24 else e : Nat) : Int) ∧ Hp w0 w' [] []) := by
  refine does_of Tryz.func21 Tryz.ntmps21 rfl ?_
  refine nR24 ?_
  have H := Hp.old hR.row
  have hle := hR.le
  have hln := hR.len
  have hcp := hR.cap
  refine run_seq ?_
  refine run_region ?_
  refine ops_val (ex_assign rfl) ?_
  refine ops_nil ?_
  refine nR24 ?_
  refine run_seq ?_
  refine run_seq ?_
  refine run_still mixed (by kernel_rfl) ?_
  rintro w1 hw1
  have H1 := Hp.drew H; rw [← hw1] at H1
  refine still_val (ex_move rfl) ?_
  refine still_val (ex_nilCheck rfl) ?_
  refine still_val (ex_fieldAddr fl125_2 rfl) ?_
  refine still_val (ex_load ty32 rfl (H1.cell (i := 0) rfl rfl)) ?_
  refine nS24 ?_
  refine still_test (ex_eql rfl rfl) (fun hp7 => ?_) (fun hp7 => ?_)
  · skip
    refine still_val (ex_move rfl) ?_
    refine still_yes rfl ?_
    refine still_val (ex_move rfl) ?_
    refine nS24 ?_
    refine still_yes rfl ?_
    refine still_val (ex_nilCheck rfl) ?_
    refine still_yes rfl ?_
    refine still_val (ex_fieldAddr fl125_1 rfl) ?_
    refine nS24 ?_
    refine still_yes rfl ?_
    refine still_val (ex_load ty3 rfl (H1.cell (i := 0) rfl rfl)) ?_
    refine still_yes rfl ?_
    refine still_val (ex_move rfl) ?_
    refine nS24 ?_
    refine still_yes rfl ?_
    refine still_val (ex_nilCheck rfl) ?_
    refine still_yes rfl ?_
    refine still_val (ex_fieldAddr fl125_0 rfl) ?_
    refine nS24 ?_
    refine still_yes rfl ?_
    refine still_val (ex_load ty29 rfl (H1.cell (i := 0) rfl rfl)) ?_
    refine still_yes rfl ?_
    refine still_val (ex_len_slice Tryz.underlying29 rfl) ?_
    refine nS24 ?_
    refine still_yes rfl ?_
    refine still_test (ex_lss rfl rfl) (fun hp18 => ?_) (fun hp18 => ?_)
    · skip
      refine still_val (ex_pick_t rfl rfl) ?_
      refine still_nil ?_
      refine nR24 ?_
      refine run_cond_true rfl ?_
      refine run_seq ?_
      refine run_region ?_
      refine ops_val (ex_assign rfl) ?_
      refine ops_nil ?_
      refine nR24 ?_
      refine run_ret ?_
      refine fin_ret1 rfl rfl ?_
      rw [if_pos (by omega)]
      exact ⟨rfl, by rw [hw1]; exact (Hp.refl w0).drew⟩
    · skip
      refine still_val (ex_pick_t rfl rfl) ?_
      refine still_nil ?_
      refine nR24 ?_
      refine run_cond_false rfl ?_
      refine run_skip ?_
      refine run_seq ?_
      refine run_region ?_
      refine ops_val (ex_move rfl) ?_
      refine ops_val (ex_nilCheck rfl) ?_
      refine ops_val (ex_fieldAddr fl125_2 rfl) ?_
      refine ops_val (ex_load ty32 rfl (H1.cell (i := 0) rfl rfl)) ?_
      refine nO24 ?_
      refine ops_val (ex_assign rfl) ?_
      refine ops_nil ?_
      refine nR24 ?_
      refine run_ret ?_
      refine fin_ret1 rfl rfl ?_
      rw [if_neg (by omega)]
      exact ⟨rfl, by rw [hw1]; exact (Hp.refl w0).drew⟩
  · skip
    refine still_val (ex_move rfl) ?_
    refine still_no rfl ?_
    refine nS24 ?_
    refine still_no rfl ?_
    refine still_no rfl ?_
    refine nS24 ?_
    refine still_no rfl ?_
    refine still_no rfl ?_
    refine nS24 ?_
    refine still_no rfl ?_
    refine still_no rfl ?_
    refine nS24 ?_
    refine still_no rfl ?_
    refine still_no rfl ?_
    refine nS24 ?_
    refine still_no rfl ?_
    refine still_val (ex_pick_f rfl rfl) ?_
    refine still_nil ?_
    refine nR24 ?_
    refine run_cond_false rfl ?_
    refine run_skip ?_
    refine run_seq ?_
    refine run_region ?_
    refine ops_val (ex_move rfl) ?_
    refine ops_val (ex_nilCheck rfl) ?_
    refine ops_val (ex_fieldAddr fl125_2 rfl) ?_
    refine ops_val (ex_load ty32 rfl (H1.cell (i := 0) rfl rfl)) ?_
    refine nO24 ?_
    refine ops_val (ex_assign rfl) ?_
    refine ops_nil ?_
    refine nR24 ?_
    refine run_ret ?_
    refine fin_ret1 rfl rfl ?_
    rw [if_neg (by omega)]
    exact ⟨rfl, by rw [hw1]; exact (Hp.refl w0).drew⟩
end Go.Proofs.YtoeobicpdeklaaaGreat
