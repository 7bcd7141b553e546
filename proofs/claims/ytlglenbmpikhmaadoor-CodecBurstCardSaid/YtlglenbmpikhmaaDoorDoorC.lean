/- Walks of layer 2, printed by wip/gen/codec.py. -/
import Derived.Test.YtlglenbmpikhmaaDoorDoorB
namespace Go.Proofs.YtlglenbmpikhmaaDoor
open Go Go.RowKit
set_option linter.unusedVariables false
attribute [local irreducible] Still Ops Does Cd
attribute [local irreducible] crc sum
set_option maxRecDepth 100000 in
set_option maxHeartbeats 4000000 in
theorem frame_any (A : Option Addr) (b : List UInt8) (c : Nat) (w0 : World) (hr : Rd w0 A b.length 1 (u8s b)) (hb : b.length ≤ 211106232532900) (hT : Tab w0) :
    Does Tryd.prog 13 #[.slice A b.length c] w0 (fun r w' => ∃ v, r = .tuple #[v, .int .i64 ((frameOf b).2 : Int)] ∧ Own w0 w' v (frameOf b).1) := by
  refine does_of Tryd.func13 Tryd.ntmps13 rfl ?_
  change Run _ _ _ _ [.slice A b.length c, undef, undef, undef, undef, undef, undef, undef, undef, undef, undef, undef, undef, undef, undef, undef, undef, undef, undef, undef, undef, undef, undef, undef, undef] _
  have H := Hp.refl w0
  refine run_seq ?_
  refine run_region ?_
  refine ops_val (ex_assign rfl) ?_
  refine ops_val (ex_assign rfl) ?_
  refine ops_nil ?_
  change Run _ _ _ _ [_, _, _, _, _, _, _, _, _, _, _, _, _, _, _, _, _, _, _, _, _, _, _, _, _] _
  refine run_seq ?_
  refine run_seq ?_
  refine run_region ?_
  refine ops_val (ex_move rfl) ?_
  refine ops_val (ex_len_slice Tryd.underlying22 rfl) ?_
  refine ops_test (ex_gtr rfl rfl) (fun hp8 => ?_) (fun hp8 => ?_)
  · skip
    refine ops_nil ?_
    change Run _ _ _ _ [_, _, _, _, _, _, _, _, _, _, _, _, _, _, _, _, _, _, _, _, _, _, _, _, _] _
    refine run_cond_true rfl ?_
    refine run_seq ?_
    refine run_region ?_
    refine ops_val (ex_assign rfl) ?_
    refine ops_val (ex_assign rfl) ?_
    refine ops_nil ?_
    change Run _ _ _ _ [_, _, _, _, _, _, _, _, _, _, _, _, _, _, _, _, _, _, _, _, _, _, _, _, _] _
    refine run_ret ?_
    refine fin_ret2 rfl rfl rfl ?_
    unfold frameOf
    rw [if_pos (by omega)]
    exact ⟨_, rfl, none, 0, [], rfl, Nat.le_refl _, by simp, fun _ => rfl, H.nil 5⟩
  · have hX := ofNat_len (n := b.length) (by omega)
    refine ops_nil ?_
    change Run _ _ _ _ [_, _, _, _, _, _, _, _, _, _, _, _, _, _, _, _, _, _, _, _, _, _, _, _, _] _
    refine run_cond_false rfl ?_
    refine run_skip ?_
    refine run_seq ?_
    refine run_region ?_
    refine ops_val (ex_move rfl) ?_
    refine ops_val (ex_len_slice Tryd.underlying22 rfl) ?_
    refine ops_val (ex_conv Tryd.underlying37 Tryd.underlying3 rfl (conv32 _ (by omega))) ?_
    have hk := four_any (BitVec.ofNat 32 b.length) w0
    rw [hX] at hk
    refine ops_call_own (ex_call gf31 rfl) hk ?_
    intro w1 g1 c1 s1 hm1 hc1 hg1 Hd
    have H1 := H.call0 Hd
    change Ops _ _ _ _ _ _ [_, _, _, _, _, _, _, _, _, _, _, _, _, _, _, _, _, _, _, _, _, _, _, _, _] _
    refine ops_val (ex_assign rfl) ?_
    refine ops_nil ?_
    change Run _ _ _ _ [_, _, _, _, _, _, _, _, _, _, _, _, _, _, _, _, _, _, _, _, _, _, _, _, _] _
    refine run_seq ?_
    refine run_mixH [(true, 0), (true, 1), (true, 2), (true, 4), (false, 3), (false, 5), (true, 6), (false, 7), (false, 8), (true, 9)] H1 [] mixed (by decide) (by kernel_rfl) ?_
    rintro w2 hw2
    have H2 := Hp.drew H1; rw [← hw2] at H2
    refine mix_p rfl ?_
    refine mix1_val (fun wz hz => ex_move rfl) ?_
    refine mix_p rfl ?_
    refine mix1_val (fun wz hz => ex_cutHi3 Tryd.underlying22 ty5 rfl rfl rfl (by have := hm1; rw [four_length] at this; omega)) ?_
    refine mix_p rfl ?_
    refine mix1_val (fun wz hz => ex_move rfl) ?_
    refine mix_p rfl ?_
    refine mix1_val (fun wz hz => ex_move rfl) ?_
    change Mixes _ _ _ _ _ _ [_, _, _, _, _, _, _, _, _, _, _, _, _, _, _, _, _, _, _, _, _, _, _, _, _] _
    refine mix_o rfl ?_
    refine ops_call_val (ex_call gf24 rfl) (more_any 0xFFFFFFFF#32 (hd g1) (four b.length) c1 _ (H2.rd (i := 0) (o := g1) (xs := u8s ((four b.length))) (sp := s1) rfl (u8s_length1 _) (by decide)) (by rw [four_length]; omega) (hT.to H2)) ?_
    intro w3 Hd
    have H3 := H2.call0 Hd
    refine ops_nil ?_
    refine ⟨H3.pick [] (by decide), ?_⟩
    change Mixes _ _ _ _ _ _ [_, _, _, _, _, _, _, _, _, _, _, _, _, _, _, _, _, _, _, _, _, _, _, _, _] _
    refine mix_o rfl ?_
    refine ops_call_val (ex_call gf24 rfl) (more_any _ A b c _ (hr.to0 H3) (by omega) (hT.to H3)) ?_
    intro w4 Hd
    have H4 := H3.call0 Hd
    refine ops_nil ?_
    refine ⟨H4.pick [] (by decide), ?_⟩
    change Mixes _ _ _ _ _ _ [_, _, _, _, _, _, _, _, _, _, _, _, _, _, _, _, _, _, _, _, _, _, _, _, _] _
    refine mix_p rfl ?_
    refine mix1_val (fun wz hz => ex_compl rfl (show _ = ((sum ((four b.length) ++ b)).toNat : Int) from by rw [← sum_two]; exact not32 _)) ?_
    refine mix_o rfl ?_
    refine ops_call_own (ex_call gf31 rfl) (four_any (sum ((four b.length) ++ b)) _) ?_
    intro w5 g2 c2 s2 hm2 hc2 hg2 Hd
    have H5 := H4.call0 Hd
    refine ops_nil ?_
    refine ⟨H5.pick [] (by decide), ?_⟩
    change Mixes _ _ _ _ _ _ [_, _, _, _, _, _, _, _, _, _, _, _, _, _, _, _, _, _, _, _, _, _, _, _, _] _
    refine mix_o rfl ?_
    have h44 : 4 ≤ c1 := by have := hm1; rw [four_length] at this; exact this
    refine ops_app8 Tryd.underlying22 ty5 H5 0 (L := (four b.length)) (M := (four (sum (four b.length ++ b)).toNat)) (g := g1) (sp := s1) rfl rfl (by have := hc1; rw [four_length] at hm1; simp only [List.length_append, u8s_length, four_length] at this ⊢; show 4 * 1 ≤ _; omega) (by rw [four_length]; exact Nat.le_refl _) (fun hh => by have := hg1 hh; omega) rfl (H5.rd (i := 1) (o := g2) (xs := u8s ((four (sum (four b.length ++ b)).toNat))) (sp := s2) rfl (u8s_length1 _) (by decide)) (by first | (simp [four_length]; done) | (simp [four_length]; omega)) ?_
    intro w6 ga1 ca1 sa1 H6 hma1 hca1 hga1
    refine ops_nil ?_
    refine ⟨H6.pick [] (by decide), ?_⟩
    change Mixes _ _ _ _ _ _ [_, _, _, _, _, _, _, _, _, _, _, _, _, _, _, _, _, _, _, _, _, _, _, _, _] _
    refine mix_p rfl ?_
    refine mix1_val (fun wz hz => ex_assign rfl) ?_
    refine mix_nil ?_
    change Run _ _ _ _ [_, _, _, _, _, _, _, _, _, _, _, _, _, _, _, _, _, _, _, _, _, _, _, _, _] _
    refine run_seq ?_
    refine run_region ?_
    refine ops_val (ex_move rfl) ?_
    refine ops_val (ex_move rfl) ?_
    refine ops_app8 Tryd.underlying22 ty5 H6 0 (L := (four b.length) ++ (four (sum (four b.length ++ b)).toNat)) (M := b) (g := ga1) (sp := sa1) rfl rfl (hca1) (hma1) (hga1) rfl (hr.to0 H6) (by simp [four_length]; omega) ?_
    intro w7 ga2 ca2 sa2 H7 hma2 hca2 hga2
    refine ops_val (ex_assign rfl) ?_
    change Ops _ _ _ _ _ _ [_, _, _, _, _, _, _, _, _, _, _, _, _, _, _, _, _, _, _, _, _, _, _, _, _] _
    refine ops_val (ex_assign rfl) ?_
    refine ops_nil ?_
    change Run _ _ _ _ [_, _, _, _, _, _, _, _, _, _, _, _, _, _, _, _, _, _, _, _, _, _, _, _, _] _
    refine run_ret ?_
    refine fin_ret2 rfl rfl rfl ?_
    unfold frameOf
    rw [if_neg (by omega)]
    exact ⟨_, rfl, ga2, ca2, sa2, rfl, hma2, hca2, hga2, H7.pick [0] (by decide)⟩
set_option maxRecDepth 100000 in
set_option maxHeartbeats 4000000 in
theorem rframe_any (A : Option Addr) (b : List UInt8) (c : Nat) (w0 : World) (hr : Rd w0 A b.length 1 (u8s b)) (hb : b.length ≤ 211106232532900) :
    Does Tryd.prog 14 #[.slice A b.length c] w0 (fun r w' => ∃ v, r = .tuple #[v, .int .i64 ((frameOf b).2 : Int)] ∧ Own w0 w' v (frameOf b).1) := by
  refine does_of Tryd.func14 Tryd.ntmps14 rfl ?_
  change Run _ _ _ _ [.slice A b.length c, undef, undef, undef, undef, undef, undef, undef, undef, undef, undef, undef, undef, undef, undef, undef, undef, undef, undef, undef, undef, undef, undef, undef, undef] _
  have H := Hp.refl w0
  refine run_seq ?_
  refine run_region ?_
  refine ops_val (ex_assign rfl) ?_
  refine ops_val (ex_assign rfl) ?_
  refine ops_nil ?_
  change Run _ _ _ _ [_, _, _, _, _, _, _, _, _, _, _, _, _, _, _, _, _, _, _, _, _, _, _, _, _] _
  refine run_seq ?_
  refine run_seq ?_
  refine run_region ?_
  refine ops_val (ex_move rfl) ?_
  refine ops_val (ex_len_slice Tryd.underlying22 rfl) ?_
  refine ops_test (ex_gtr rfl rfl) (fun hp8 => ?_) (fun hp8 => ?_)
  · skip
    refine ops_nil ?_
    change Run _ _ _ _ [_, _, _, _, _, _, _, _, _, _, _, _, _, _, _, _, _, _, _, _, _, _, _, _, _] _
    refine run_cond_true rfl ?_
    refine run_seq ?_
    refine run_region ?_
    refine ops_val (ex_assign rfl) ?_
    refine ops_val (ex_assign rfl) ?_
    refine ops_nil ?_
    change Run _ _ _ _ [_, _, _, _, _, _, _, _, _, _, _, _, _, _, _, _, _, _, _, _, _, _, _, _, _] _
    refine run_ret ?_
    refine fin_ret2 rfl rfl rfl ?_
    unfold frameOf
    rw [if_pos (by omega)]
    exact ⟨_, rfl, none, 0, [], rfl, Nat.le_refl _, by simp, fun _ => rfl, H.nil 5⟩
  · have hX := ofNat_len (n := b.length) (by omega)
    refine ops_nil ?_
    change Run _ _ _ _ [_, _, _, _, _, _, _, _, _, _, _, _, _, _, _, _, _, _, _, _, _, _, _, _, _] _
    refine run_cond_false rfl ?_
    refine run_skip ?_
    refine run_seq ?_
    refine run_region ?_
    refine ops_val (ex_move rfl) ?_
    refine ops_val (ex_len_slice Tryd.underlying22 rfl) ?_
    refine ops_val (ex_conv Tryd.underlying37 Tryd.underlying3 rfl (conv32 _ (by omega))) ?_
    have hk := rfour_any (BitVec.ofNat 32 b.length) w0
    rw [hX] at hk
    refine ops_call_own (ex_call gf32 rfl) hk ?_
    intro w1 g1 c1 s1 hm1 hc1 hg1 Hd
    have H1 := H.call0 Hd
    change Ops _ _ _ _ _ _ [_, _, _, _, _, _, _, _, _, _, _, _, _, _, _, _, _, _, _, _, _, _, _, _, _] _
    refine ops_val (ex_assign rfl) ?_
    refine ops_nil ?_
    change Run _ _ _ _ [_, _, _, _, _, _, _, _, _, _, _, _, _, _, _, _, _, _, _, _, _, _, _, _, _] _
    refine run_seq ?_
    refine run_region ?_
    refine ops_buildSlice Tryd.underlying22 ty5 H1 (cs := []) rfl (by decide) rfl ?_
    intro w2 gb H2 hgb
    refine ops_val (ex_move rfl) ?_
    refine ops_app8 Tryd.underlying22 ty5 H2 1 (L := []) (M := (four b.length)) (g := some gb) (sp := []) rfl rfl (by decide) (by decide) (by simp) rfl (H2.rd (i := 0) (o := g1) (xs := u8s ((four b.length))) (sp := s1) rfl (u8s_length1 _) (by decide)) (by first | (simp [four_length]; done) | (simp [four_length]; omega)) ?_
    intro w3 ga1 ca1 sa1 H3 hma1 hca1 hga1
    refine ops_val (ex_move rfl) ?_
    change Ops _ _ _ _ _ _ [_, _, _, _, _, _, _, _, _, _, _, _, _, _, _, _, _, _, _, _, _, _, _, _, _] _
    refine ops_app8 Tryd.underlying22 ty5 H3 1 (L := [] ++ (four b.length)) (M := b) (g := ga1) (sp := sa1) rfl rfl (hca1) (hma1) (hga1) rfl (hr.to0 H3) (by first | (simp [four_length]; done) | (simp [four_length]; omega)) ?_
    intro w4 ga2 ca2 sa2 H4 hma2 hca2 hga2
    refine ops_call_val (ex_call gf22 rfl) (rsum_any (hd ga2) (([] ++ (four b.length)) ++ b) ca2 _ (H4.rd (i := 1) (o := ga2) (xs := u8s (([] ++ (four b.length)) ++ b)) (sp := sa2) rfl (u8s_length1 _) (by decide)) (by simp [four_length]; omega)) ?_
    intro w5 Hd
    have H5 := H4.call0 Hd
    simp only [List.nil_append] at *
    refine ops_call_own (ex_call gf32 rfl) (rfour_any (sum ((four b.length) ++ b)) _) ?_
    intro w6 g2 c2 s2 hm2 hc2 hg2 Hd
    have H6 := H5.call0 Hd
    refine ops_val (ex_assign rfl) ?_
    refine ops_nil ?_
    change Run _ _ _ _ [_, _, _, _, _, _, _, _, _, _, _, _, _, _, _, _, _, _, _, _, _, _, _, _, _] _
    refine run_seq ?_
    refine run_region ?_
    refine ops_val (ex_move rfl) ?_
    refine ops_val (ex_move rfl) ?_
    refine ops_app8 Tryd.underlying22 ty5 H6 0 (L := (four b.length)) (M := (four (sum (four b.length ++ b)).toNat)) (g := g1) (sp := s1) rfl rfl (hc1) (hm1) (hg1) rfl (H6.rd (i := 2) (o := g2) (xs := u8s ((four (sum (four b.length ++ b)).toNat))) (sp := s2) rfl (u8s_length1 _) (by decide)) (by first | (simp [four_length]; done) | (simp [four_length]; omega)) ?_
    intro w7 ga3 ca3 sa3 H7 hma3 hca3 hga3
    refine ops_val (ex_move rfl) ?_
    change Ops _ _ _ _ _ _ [_, _, _, _, _, _, _, _, _, _, _, _, _, _, _, _, _, _, _, _, _, _, _, _, _] _
    refine ops_app8 Tryd.underlying22 ty5 H7 0 (L := (four b.length) ++ (four (sum (four b.length ++ b)).toNat)) (M := b) (g := ga3) (sp := sa3) rfl rfl (hca3) (hma3) (hga3) rfl (hr.to0 H7) (by first | (simp [four_length]; done) | (simp [four_length]; omega)) ?_
    intro w8 ga4 ca4 sa4 H8 hma4 hca4 hga4
    refine ops_val (ex_assign rfl) ?_
    refine ops_val (ex_assign rfl) ?_
    refine ops_nil ?_
    change Run _ _ _ _ [_, _, _, _, _, _, _, _, _, _, _, _, _, _, _, _, _, _, _, _, _, _, _, _, _] _
    refine run_ret ?_
    refine fin_ret2 rfl rfl rfl ?_
    unfold frameOf
    rw [if_neg (by omega)]
    exact ⟨_, rfl, ga4, ca4, sa4, rfl, hma4, hca4, hga4, H8.pick [0] (by decide)⟩
set_option maxRecDepth 100000 in
set_option maxHeartbeats 4000000 in
theorem unframe_any (A : Option Addr) (b : List UInt8) (c : Nat) (w0 : World) (hr : Rd w0 A b.length 1 (u8s b)) (hb : b.length ≤ 211106232532900) (hc : b.length ≤ c) (hT : Tab w0) :
    Does Tryd.prog 8 #[.slice A b.length c] w0 (fun r w' => ∃ v, r = .tuple #[v, .int .i64 ((unf b).2.1 : Int), .int .i64 ((unf b).2.2 : Int)] ∧ Own w0 w' v (unf b).1) := by
  refine does_of Tryd.func8 Tryd.ntmps8 rfl ?_
  change Run _ _ _ _ [.slice A b.length c, undef, undef, undef, undef, undef, undef, undef, undef, undef, undef, undef, undef, undef, undef, undef, undef, undef, undef, undef, undef, undef, undef, undef, undef, undef, undef, undef, undef, undef, undef, undef, undef, undef, undef, undef, undef, undef, undef, undef, undef] _
  have H := Hp.refl w0
  refine run_seq ?_
  refine run_region ?_
  refine ops_val (ex_assign rfl) ?_
  refine ops_val (ex_assign rfl) ?_
  refine ops_val (ex_assign rfl) ?_
  refine ops_nil ?_
  change Run _ _ _ _ [_, _, _, _, _, _, _, _, _, _, _, _, _, _, _, _, _, _, _, _, _, _, _, _, _, _, _, _, _, _, _, _, _, _, _, _, _, _, _, _, _] _
  refine run_seq ?_
  refine run_seq ?_
  refine run_region ?_
  refine ops_val (ex_move rfl) ?_
  refine ops_val (ex_len_slice Tryd.underlying22 rfl) ?_
  refine ops_test (ex_lss rfl rfl) (fun hp9 => ?_) (fun hp9 => ?_)
  · skip
    refine ops_nil ?_
    change Run _ _ _ _ [_, _, _, _, _, _, _, _, _, _, _, _, _, _, _, _, _, _, _, _, _, _, _, _, _, _, _, _, _, _, _, _, _, _, _, _, _, _, _, _, _] _
    refine run_cond_true rfl ?_
    refine run_seq ?_
    refine run_region ?_
    refine ops_val (ex_assign rfl) ?_
    refine ops_val (ex_assign rfl) ?_
    refine ops_val (ex_assign rfl) ?_
    refine ops_nil ?_
    change Run _ _ _ _ [_, _, _, _, _, _, _, _, _, _, _, _, _, _, _, _, _, _, _, _, _, _, _, _, _, _, _, _, _, _, _, _, _, _, _, _, _, _, _, _, _] _
    refine run_ret ?_
    refine fin_ret3 rfl rfl rfl rfl ?_
    rw [unf_short (by omega)]
    exact ⟨_, rfl, none, 0, [], rfl, Nat.le_refl _, by simp, fun _ => rfl, H.nil 5⟩
  · have hW := wordOf_lt b
    have e1 := @unf_short b
    have e2 := @unf_long b
    have e3 := @unf_less b
    have e4 := @unf_sum b
    have e5 := @unf_ok b
    generalize hn : wordOf b = nn at *
    refine ops_nil ?_
    change Run _ _ _ _ [_, _, _, _, _, _, _, _, _, _, _, _, _, _, _, _, _, _, _, _, _, _, _, _, _, _, _, _, _, _, _, _, _, _, _, _, _, _, _, _, _] _
    refine run_cond_false rfl ?_
    refine run_skip ?_
    refine run_seq ?_
    refine run_region ?_
    refine ops_val (ex_move rfl) ?_
    have hk := word_any A b c _ (hr.to0 H) (by omega)
    rw [hn] at hk
    refine ops_call_val (ex_call gf23 rfl) hk ?_
    intro w1 Hd
    have H1 := H.call0 Hd
    refine ops_val (ex_assign rfl) ?_
    refine ops_nil ?_
    change Run _ _ _ _ [_, _, _, _, _, _, _, _, _, _, _, _, _, _, _, _, _, _, _, _, _, _, _, _, _, _, _, _, _, _, _, _, _, _, _, _, _, _, _, _, _] _
    refine run_seq ?_
    refine run_seq ?_
    refine run_region ?_
    refine ops_val (ex_move rfl) ?_
    refine ops_test (ex_gtr rfl rfl) (fun hp13 => ?_) (fun hp13 => ?_)
    · skip
      refine ops_nil ?_
      change Run _ _ _ _ [_, _, _, _, _, _, _, _, _, _, _, _, _, _, _, _, _, _, _, _, _, _, _, _, _, _, _, _, _, _, _, _, _, _, _, _, _, _, _, _, _] _
      refine run_cond_true rfl ?_
      refine run_seq ?_
      refine run_region ?_
      refine ops_val (ex_assign rfl) ?_
      refine ops_val (ex_assign rfl) ?_
      refine ops_val (ex_assign rfl) ?_
      refine ops_nil ?_
      change Run _ _ _ _ [_, _, _, _, _, _, _, _, _, _, _, _, _, _, _, _, _, _, _, _, _, _, _, _, _, _, _, _, _, _, _, _, _, _, _, _, _, _, _, _, _] _
      refine run_ret ?_
      refine fin_ret3 rfl rfl rfl rfl ?_
      rw [e2 (by omega) (by omega)]
      exact ⟨_, rfl, none, 0, [], rfl, Nat.le_refl _, by simp, fun _ => rfl, H1.nil 5⟩
    · skip
      refine ops_nil ?_
      change Run _ _ _ _ [_, _, _, _, _, _, _, _, _, _, _, _, _, _, _, _, _, _, _, _, _, _, _, _, _, _, _, _, _, _, _, _, _, _, _, _, _, _, _, _, _] _
      refine run_cond_false rfl ?_
      refine run_skip ?_
      refine run_seq ?_
      refine run_seq ?_
      refine run_region ?_
      refine ops_val (ex_move rfl) ?_
      refine ops_val (ex_len_slice Tryd.underlying22 rfl) ?_
      refine ops_val (ex_sub rfl rfl (IntWalk.i64_in _ (by omega))) ?_
      refine ops_val (ex_move rfl) ?_
      change Ops _ _ _ _ _ _ [_, _, _, _, _, _, _, _, _, _, _, _, _, _, _, _, _, _, _, _, _, _, _, _, _, _, _, _, _, _, _, _, _, _, _, _, _, _, _, _, _] _
      refine ops_val (ex_conv Tryd.underlying3 Tryd.underlying37 rfl (IntWalk.i64_in _ (by omega))) ?_
      refine ops_test (ex_lss rfl rfl) (fun hp19 => ?_) (fun hp19 => ?_)
      · skip
        refine ops_nil ?_
        change Run _ _ _ _ [_, _, _, _, _, _, _, _, _, _, _, _, _, _, _, _, _, _, _, _, _, _, _, _, _, _, _, _, _, _, _, _, _, _, _, _, _, _, _, _, _] _
        refine run_cond_true rfl ?_
        refine run_seq ?_
        refine run_region ?_
        refine ops_val (ex_assign rfl) ?_
        refine ops_val (ex_assign rfl) ?_
        refine ops_val (ex_assign rfl) ?_
        refine ops_nil ?_
        change Run _ _ _ _ [_, _, _, _, _, _, _, _, _, _, _, _, _, _, _, _, _, _, _, _, _, _, _, _, _, _, _, _, _, _, _, _, _, _, _, _, _, _, _, _, _] _
        refine run_ret ?_
        refine fin_ret3 rfl rfl rfl rfl ?_
        rw [e3 (by omega) (by omega) (by omega)]
        exact ⟨_, rfl, none, 0, [], rfl, Nat.le_refl _, by simp, fun _ => rfl, H1.nil 5⟩
      · have hml : ((b.drop 8).take nn).length = nn := by rw [List.length_take, List.length_drop]; omega
        refine ops_nil ?_
        change Run _ _ _ _ [_, _, _, _, _, _, _, _, _, _, _, _, _, _, _, _, _, _, _, _, _, _, _, _, _, _, _, _, _, _, _, _, _, _, _, _, _, _, _, _, _] _
        refine run_cond_false rfl ?_
        refine run_skip ?_
        refine run_seq ?_
        refine run_region ?_
        refine ops_val (ex_move rfl) ?_
        refine ops_val (ex_conv Tryd.underlying3 Tryd.underlying37 rfl (IntWalk.i64_in _ (by omega))) ?_
        refine ops_val (ex_add rfl rfl ((IntWalk.i64_in _ (by omega)).trans (show ((8 : Int) + (nn : Int)) = ((8 + nn : Nat) : Int) by omega))) ?_
        refine ops_val (ex_assign rfl) ?_
        refine ops_nil ?_
        change Run _ _ _ _ [_, _, _, _, _, _, _, _, _, _, _, _, _, _, _, _, _, _, _, _, _, _, _, _, _, _, _, _, _, _, _, _, _, _, _, _, _, _, _, _, _] _
        refine run_seq ?_
        refine run_seq ?_
        refine run_mixH [(true, 0), (true, 1), (true, 3), (true, 4), (true, 5), (true, 8), (true, 9), (false, 2), (false, 6), (true, 7), (false, 10), (true, 11)] H1 [] mixed (by decide) (by kernel_rfl) ?_
        rintro w2 hw2
        have H2 := Hp.drew H1; rw [← hw2] at H2
        refine mix_p rfl ?_
        refine mix1_val (fun wz hz => ex_move rfl) ?_
        refine mix_p rfl ?_
        refine mix1_val (fun wz hz => ex_cutHi Tryd.underlying22 ty5 rfl rfl (by omega)) ?_
        refine mix_p rfl ?_
        refine mix1_val (fun wz hz => ex_move rfl) ?_
        refine mix_p rfl ?_
        refine mix1_val (fun wz hz => ex_move rfl) ?_
        change Mixes _ _ _ _ _ _ [_, _, _, _, _, _, _, _, _, _, _, _, _, _, _, _, _, _, _, _, _, _, _, _, _, _, _, _, _, _, _, _, _, _, _, _, _, _, _, _, _] _
        refine mix_p rfl ?_
        refine mix1_val (fun wz hz => ex_cut2 Tryd.underlying22 ty5 rfl rfl rfl (by omega)) ?_
        refine mix_p rfl ?_
        refine mix1_val (fun wz hz => ex_move rfl) ?_
        refine mix_p rfl ?_
        refine mix1_val (fun wz hz => ex_cutLo Tryd.underlying22 ty5 rfl rfl (by omega)) ?_
        refine mix_o rfl ?_
        have h4l : (b.take 4).length = 4 := by rw [List.length_take]; omega
        have hk := more_any 0xFFFFFFFF#32 A (b.take 4) c _ ((hr.to0 H2).head (by omega)) (by omega) (hT.to H2)
        rw [h4l] at hk
        refine ops_call_val (ex_call gf24 rfl) hk ?_
        intro w3 Hd
        have H3 := H2.call0 Hd
        refine ops_nil ?_
        refine ⟨H3.pick [] (by decide), ?_⟩
        change Mixes _ _ _ _ _ _ [_, _, _, _, _, _, _, _, _, _, _, _, _, _, _, _, _, _, _, _, _, _, _, _, _, _, _, _, _, _, _, _, _, _, _, _, _, _, _, _, _] _
        refine mix_o rfl ?_
        have hmd := (hr.to0 H3).mid2 (n := 8) (v := nn) (c := c) (by omega) hc
        have hml2 : ((b.drop 8).take nn).length = 8 + nn - 8 := by omega
        rw [← hml2] at hmd
        have hk := more_any (crc 0xFFFFFFFF#32 (b.take 4)) (cutAddr A 8 c 1) ((b.drop 8).take nn) (c - 8) _ hmd (by omega) (hT.to H3)
        rw [hml2] at hk
        refine ops_call_val (ex_call gf24 rfl) hk ?_
        intro w4 Hd
        have H4 := H3.call0 Hd
        refine ops_nil ?_
        refine ⟨H4.pick [] (by decide), ?_⟩
        change Mixes _ _ _ _ _ _ [_, _, _, _, _, _, _, _, _, _, _, _, _, _, _, _, _, _, _, _, _, _, _, _, _, _, _, _, _, _, _, _, _, _, _, _, _, _, _, _, _] _
        refine mix_p rfl ?_
        refine mix1_val (fun wz hz => ex_compl rfl (not32 _)) ?_
        refine mix_o rfl ?_
        have hmd2 := (hr.to0 H4).tail2 (i := 4) (c := c) (by omega) hc
        have hdl : (b.drop 4).length = b.length - 4 := List.length_drop
        rw [← hdl] at hmd2
        have hk := word_any (cutAddr A 4 c 1) (b.drop 4) (c - 4) _ hmd2 (by omega)
        rw [hdl] at hk
        refine ops_call_val (ex_call gf23 rfl) hk ?_
        intro w5 Hd
        have H5 := H4.call0 Hd
        refine ops_nil ?_
        refine ⟨H5.pick [] (by decide), ?_⟩
        change Mixes _ _ _ _ _ _ [_, _, _, _, _, _, _, _, _, _, _, _, _, _, _, _, _, _, _, _, _, _, _, _, _, _, _, _, _, _, _, _, _, _, _, _, _, _, _, _, _] _
        refine mix_p rfl ?_
        refine mix1_test (fun wz hz => ex_neq rfl rfl) (fun hp34 => ?_) (fun hp34 => ?_)
        · rw [sum_two] at hp34
          refine mix_nil ?_
          change Run _ _ _ _ [_, _, _, _, _, _, _, _, _, _, _, _, _, _, _, _, _, _, _, _, _, _, _, _, _, _, _, _, _, _, _, _, _, _, _, _, _, _, _, _, _] _
          refine run_cond_true rfl ?_
          refine run_seq ?_
          refine run_region ?_
          refine ops_val (ex_assign rfl) ?_
          refine ops_val (ex_assign rfl) ?_
          refine ops_val (ex_assign rfl) ?_
          refine ops_nil ?_
          change Run _ _ _ _ [_, _, _, _, _, _, _, _, _, _, _, _, _, _, _, _, _, _, _, _, _, _, _, _, _, _, _, _, _, _, _, _, _, _, _, _, _, _, _, _, _] _
          refine run_ret ?_
          refine fin_ret3 rfl rfl rfl rfl ?_
          rw [e4 (by omega) (by omega) (by omega) (by omega)]
          exact ⟨_, rfl, none, 0, [], rfl, Nat.le_refl _, by simp, fun _ => rfl, H5.nil 5⟩
        · rw [sum_two] at hp34
          refine mix_nil ?_
          change Run _ _ _ _ [_, _, _, _, _, _, _, _, _, _, _, _, _, _, _, _, _, _, _, _, _, _, _, _, _, _, _, _, _, _, _, _, _, _, _, _, _, _, _, _, _] _
          refine run_cond_false rfl ?_
          refine run_skip ?_
          refine run_seq ?_
          refine run_region ?_
          refine ops_val (ex_move rfl) ?_
          refine ops_val (ex_move rfl) ?_
          refine ops_val (ex_move rfl) ?_
          refine ops_val (ex_cut3s Tryd.underlying22 ty5 (lo := 8) (hi := 8 + nn) (mx := 8 + nn) (n := ((b.drop 8).take nn).length) (m := ((b.drop 8).take nn).length) rfl rfl rfl rfl (by omega) (by omega) (by omega)) ?_
          change Ops _ _ _ _ _ _ [_, _, _, _, _, _, _, _, _, _, _, _, _, _, _, _, _, _, _, _, _, _, _, _, _, _, _, _, _, _, _, _, _, _, _, _, _, _, _, _, _] _
          refine ops_call_own (ex_call gf25 rfl) (clone_any _ ((b.drop 8).take nn) _ _ ((hr.to0 H5).mid (n := 8) (v := nn) (by omega)) (by omega)) ?_
          intro w6 g1 c1 s1 hm1 hc1 hg1 Hd
          have H6 := H5.call0 Hd
          refine ops_val (ex_move rfl) ?_
          refine ops_val (ex_assign rfl) ?_
          refine ops_val (ex_assign rfl) ?_
          change Ops _ _ _ _ _ _ [_, _, _, _, _, _, _, _, _, _, _, _, _, _, _, _, _, _, _, _, _, _, _, _, _, _, _, _, _, _, _, _, _, _, _, _, _, _, _, _, _] _
          refine ops_val (ex_assign rfl) ?_
          refine ops_nil ?_
          change Run _ _ _ _ [_, _, _, _, _, _, _, _, _, _, _, _, _, _, _, _, _, _, _, _, _, _, _, _, _, _, _, _, _, _, _, _, _, _, _, _, _, _, _, _, _] _
          refine run_ret ?_
          refine fin_ret3 rfl rfl rfl rfl ?_
          rw [e5 (by omega) (by omega) (by omega) (by omega)]
          exact ⟨_, rfl, g1, c1, s1, rfl, hm1, hc1, hg1, H6.pick [0] (by decide)⟩
set_option maxRecDepth 100000 in
set_option maxHeartbeats 4000000 in
theorem runframe_any (A : Option Addr) (b : List UInt8) (c : Nat) (w0 : World) (hr : Rd w0 A b.length 1 (u8s b)) (hb : b.length ≤ 211106232532900) (hc : b.length ≤ c) :
    Does Tryd.prog 9 #[.slice A b.length c] w0 (fun r w' => ∃ v, r = .tuple #[v, .int .i64 ((unf b).2.1 : Int), .int .i64 ((unf b).2.2 : Int)] ∧ Own w0 w' v (unf b).1) := by
  refine does_of Tryd.func9 Tryd.ntmps9 rfl ?_
  change Run _ _ _ _ [.slice A b.length c, undef, undef, undef, undef, undef, undef, undef, undef, undef, undef, undef, undef, undef, undef, undef, undef, undef, undef, undef, undef, undef, undef, undef, undef, undef, undef, undef, undef, undef, undef, undef, undef, undef, undef, undef, undef, undef, undef, undef, undef, undef, undef, undef, undef, undef, undef, undef, undef, undef] _
  have H := Hp.refl w0
  refine run_seq ?_
  refine run_region ?_
  refine ops_val (ex_assign rfl) ?_
  refine ops_val (ex_assign rfl) ?_
  refine ops_val (ex_assign rfl) ?_
  refine ops_nil ?_
  change Run _ _ _ _ [_, _, _, _, _, _, _, _, _, _, _, _, _, _, _, _, _, _, _, _, _, _, _, _, _, _, _, _, _, _, _, _, _, _, _, _, _, _, _, _, _, _, _, _, _, _, _, _, _, _] _
  refine run_seq ?_
  refine run_seq ?_
  refine run_region ?_
  refine ops_val (ex_move rfl) ?_
  refine ops_val (ex_len_slice Tryd.underlying22 rfl) ?_
  refine ops_test (ex_lss rfl rfl) (fun hp12 => ?_) (fun hp12 => ?_)
  · skip
    refine ops_nil ?_
    change Run _ _ _ _ [_, _, _, _, _, _, _, _, _, _, _, _, _, _, _, _, _, _, _, _, _, _, _, _, _, _, _, _, _, _, _, _, _, _, _, _, _, _, _, _, _, _, _, _, _, _, _, _, _, _] _
    refine run_cond_true rfl ?_
    refine run_seq ?_
    refine run_region ?_
    refine ops_val (ex_assign rfl) ?_
    refine ops_val (ex_assign rfl) ?_
    refine ops_val (ex_assign rfl) ?_
    refine ops_nil ?_
    change Run _ _ _ _ [_, _, _, _, _, _, _, _, _, _, _, _, _, _, _, _, _, _, _, _, _, _, _, _, _, _, _, _, _, _, _, _, _, _, _, _, _, _, _, _, _, _, _, _, _, _, _, _, _, _] _
    refine run_ret ?_
    refine fin_ret3 rfl rfl rfl rfl ?_
    rw [unf_short (by omega)]
    exact ⟨_, rfl, none, 0, [], rfl, Nat.le_refl _, by simp, fun _ => rfl, H.nil 5⟩
  · have hW := wordOf_lt b
    have e1 := @unf_short b
    have e2 := @unf_long b
    have e3 := @unf_less b
    have e4 := @unf_sum b
    have e5 := @unf_ok b
    generalize hn : wordOf b = nn at *
    have hfe := @frame_eq b
    rw [hn] at hfe
    refine ops_nil ?_
    change Run _ _ _ _ [_, _, _, _, _, _, _, _, _, _, _, _, _, _, _, _, _, _, _, _, _, _, _, _, _, _, _, _, _, _, _, _, _, _, _, _, _, _, _, _, _, _, _, _, _, _, _, _, _, _] _
    refine run_cond_false rfl ?_
    refine run_skip ?_
    refine run_seq ?_
    refine run_region ?_
    refine ops_val (ex_move rfl) ?_
    have hk := rword_any A b c _ (hr.to0 H) (by omega)
    rw [hn] at hk
    refine ops_call_val (ex_call gf26 rfl) hk ?_
    intro w1 Hd
    have H1 := H.call0 Hd
    refine ops_val (ex_conv Tryd.underlying3 Tryd.underlying37 rfl (IntWalk.i64_in _ (by omega))) ?_
    refine ops_val (ex_assign rfl) ?_
    refine ops_nil ?_
    change Run _ _ _ _ [_, _, _, _, _, _, _, _, _, _, _, _, _, _, _, _, _, _, _, _, _, _, _, _, _, _, _, _, _, _, _, _, _, _, _, _, _, _, _, _, _, _, _, _, _, _, _, _, _, _] _
    refine run_seq ?_
    refine run_seq ?_
    refine run_region ?_
    refine ops_val (ex_move rfl) ?_
    refine ops_test (ex_gtr rfl rfl) (fun hp17 => ?_) (fun hp17 => ?_)
    · skip
      refine ops_nil ?_
      change Run _ _ _ _ [_, _, _, _, _, _, _, _, _, _, _, _, _, _, _, _, _, _, _, _, _, _, _, _, _, _, _, _, _, _, _, _, _, _, _, _, _, _, _, _, _, _, _, _, _, _, _, _, _, _] _
      refine run_cond_true rfl ?_
      refine run_seq ?_
      refine run_region ?_
      refine ops_val (ex_assign rfl) ?_
      refine ops_val (ex_assign rfl) ?_
      refine ops_val (ex_assign rfl) ?_
      refine ops_nil ?_
      change Run _ _ _ _ [_, _, _, _, _, _, _, _, _, _, _, _, _, _, _, _, _, _, _, _, _, _, _, _, _, _, _, _, _, _, _, _, _, _, _, _, _, _, _, _, _, _, _, _, _, _, _, _, _, _] _
      refine run_ret ?_
      refine fin_ret3 rfl rfl rfl rfl ?_
      rw [e2 (by omega) (by omega)]
      exact ⟨_, rfl, none, 0, [], rfl, Nat.le_refl _, by simp, fun _ => rfl, H1.nil 5⟩
    · skip
      refine ops_nil ?_
      change Run _ _ _ _ [_, _, _, _, _, _, _, _, _, _, _, _, _, _, _, _, _, _, _, _, _, _, _, _, _, _, _, _, _, _, _, _, _, _, _, _, _, _, _, _, _, _, _, _, _, _, _, _, _, _] _
      refine run_cond_false rfl ?_
      refine run_skip ?_
      refine run_seq ?_
      refine run_seq ?_
      refine run_region ?_
      refine ops_val (ex_move rfl) ?_
      refine ops_val (ex_len_slice Tryd.underlying22 rfl) ?_
      refine ops_val (ex_move rfl) ?_
      refine ops_val (ex_add rfl rfl ((IntWalk.i64_in _ (by omega)).trans (show ((8 : Int) + (nn : Int)) = ((8 + nn : Nat) : Int) by omega))) ?_
      change Ops _ _ _ _ _ _ [_, _, _, _, _, _, _, _, _, _, _, _, _, _, _, _, _, _, _, _, _, _, _, _, _, _, _, _, _, _, _, _, _, _, _, _, _, _, _, _, _, _, _, _, _, _, _, _, _, _] _
      refine ops_test (ex_lss rfl rfl) (fun hp22 => ?_) (fun hp22 => ?_)
      · skip
        refine ops_nil ?_
        change Run _ _ _ _ [_, _, _, _, _, _, _, _, _, _, _, _, _, _, _, _, _, _, _, _, _, _, _, _, _, _, _, _, _, _, _, _, _, _, _, _, _, _, _, _, _, _, _, _, _, _, _, _, _, _] _
        refine run_cond_true rfl ?_
        refine run_seq ?_
        refine run_region ?_
        refine ops_val (ex_assign rfl) ?_
        refine ops_val (ex_assign rfl) ?_
        refine ops_val (ex_assign rfl) ?_
        refine ops_nil ?_
        change Run _ _ _ _ [_, _, _, _, _, _, _, _, _, _, _, _, _, _, _, _, _, _, _, _, _, _, _, _, _, _, _, _, _, _, _, _, _, _, _, _, _, _, _, _, _, _, _, _, _, _, _, _, _, _] _
        refine run_ret ?_
        refine fin_ret3 rfl rfl rfl rfl ?_
        rw [e3 (by omega) (by omega) (by omega)]
        exact ⟨_, rfl, none, 0, [], rfl, Nat.le_refl _, by simp, fun _ => rfl, H1.nil 5⟩
      · have hml : ((b.drop 8).take nn).length = nn := by rw [List.length_take, List.length_drop]; omega
        replace hfe := hfe (by omega) (by omega)
        refine ops_nil ?_
        change Run _ _ _ _ [_, _, _, _, _, _, _, _, _, _, _, _, _, _, _, _, _, _, _, _, _, _, _, _, _, _, _, _, _, _, _, _, _, _, _, _, _, _, _, _, _, _, _, _, _, _, _, _, _, _] _
        refine run_cond_false rfl ?_
        refine run_skip ?_
        refine run_seq ?_
        refine run_region ?_
        refine ops_buildSlice Tryd.underlying22 ty5 H1 (cs := []) rfl (by decide) rfl ?_
        intro w2 gb H2 hgb
        refine ops_val (ex_move rfl) ?_
        refine ops_val (ex_move rfl) ?_
        refine ops_val (ex_add rfl rfl ((IntWalk.i64_in _ (by omega)).trans (show ((8 : Int) + (nn : Int)) = ((8 + nn : Nat) : Int) by omega))) ?_
        change Ops _ _ _ _ _ _ [_, _, _, _, _, _, _, _, _, _, _, _, _, _, _, _, _, _, _, _, _, _, _, _, _, _, _, _, _, _, _, _, _, _, _, _, _, _, _, _, _, _, _, _, _, _, _, _, _, _] _
        refine ops_val (ex_cut2 Tryd.underlying22 ty5 rfl rfl rfl (by omega)) ?_
        rw [show (((8 + nn : Nat) : Int)).toNat - (8 : Int).toNat = ((b.drop 8).take nn).length from by rw [hml]; omega]
        have hmd := (hr.to0 H2).mid2 (n := 8) (v := nn) (c := c) (by omega) hc
        rw [show 8 + nn - 8 = ((b.drop 8).take nn).length from by rw [hml]; omega] at hmd
        refine ops_app8 Tryd.underlying22 ty5 H2 0 (L := []) (M := ((b.drop 8).take nn)) (g := some gb) (sp := []) rfl rfl (by decide) (by decide) (by simp) rfl (hmd) (by simp; omega) ?_
        intro w3 ga1 ca1 sa1 H3 hma1 hca1 hga1
        simp only [List.nil_append] at *
        refine ops_val (ex_assign rfl) ?_
        refine ops_nil ?_
        change Run _ _ _ _ [_, _, _, _, _, _, _, _, _, _, _, _, _, _, _, _, _, _, _, _, _, _, _, _, _, _, _, _, _, _, _, _, _, _, _, _, _, _, _, _, _, _, _, _, _, _, _, _, _, _] _
        refine run_seq ?_
        refine run_region ?_
        refine ops_val (ex_move rfl) ?_
        have hk := rframe_any (hd ga1) ((b.drop 8).take nn) ca1 _ (H3.rd (i := 0) (o := ga1) (xs := u8s (((b.drop 8).take nn))) (sp := sa1) rfl (u8s_length1 _) (by decide)) (by omega)
        have hfo : frameOf ((b.drop 8).take nn) = (frame ((b.drop 8).take nn), 0) := if_neg (by omega)
        rw [hfo] at hk
        refine ops_call (ex_call gf14 rfl) hk ?_
        rintro _ w4 ⟨_, rfl, gf, cf, sf, rfl, hmf, hcf, hgf, Hd⟩
        dsimp only at hmf hcf Hd
        have H4 := H3.call0 Hd
        refine ops_val (ex_move rfl) ?_
        refine ops_val (ex_extract rfl rfl) ?_
        change Ops _ _ _ _ _ _ [_, _, _, _, _, _, _, _, _, _, _, _, _, _, _, _, _, _, _, _, _, _, _, _, _, _, _, _, _, _, _, _, _, _, _, _, _, _, _, _, _, _, _, _, _, _, _, _, _, _] _
        refine ops_val (ex_extract rfl rfl) ?_
        refine ops_val (ex_assign rfl) ?_
        refine ops_val (ex_assign rfl) ?_
        refine ops_nil ?_
        change Run _ _ _ _ [_, _, _, _, _, _, _, _, _, _, _, _, _, _, _, _, _, _, _, _, _, _, _, _, _, _, _, _, _, _, _, _, _, _, _, _, _, _, _, _, _, _, _, _, _, _, _, _, _, _] _
        refine run_seq ?_
        refine run_seq ?_
        refine run_region ?_
        refine ops_val (ex_assign rfl) ?_
        refine ops_nil ?_
        change Run _ _ _ _ [_, _, _, _, _, _, _, _, _, _, _, _, _, _, _, _, _, _, _, _, _, _, _, _, _, _, _, _, _, _, _, _, _, _, _, _, _, _, _, _, _, _, _, _, _, _, _, _, _, _] _
        refine run_block ?_
        refine run_loop (fun n l w => ∃ (q : Nat) (y : Int), 8 - q = n ∧ Fits [some (.slice A b.length c), none, none, none, none, some (.int .i64 nn), some (.slice (hd ga1) ((b.drop 8).take nn).length ca1), some (.slice (hd gf) (frame ((b.drop 8).take nn)).length cf), none, some (.int .i64 y), none, none, none, none, none, none, none, none, none, none, none, none, none, none, none, none, none, none, none, none, none, none, none, none, none, none, none, none, none, none, none, none, none, none, none, none, none, none, none, none] l ∧ y = q ∧ q ≤ 8 ∧ (frame ((b.drop 8).take nn)).take q = b.take q ∧ Hp w0 w [] [(ga1, 5, u8s ((b.drop 8).take nn) ++ sa1), (gf, 5, u8s (frame ((b.drop 8).take nn)) ++ sf)]) (8) ?_ ?_
        · exact ⟨0, _, rfl, (fs (fn (fn (fn (fn (fs (fs (fs (fn (fs (fn (fn (fn (fn (fn (fn (fn (fn (fn (fn (fn (fn (fn (fn (fn (fn (fn (fn (fn (fn (fn (fn (fn (fn (fn (fn (fn (fn (fn (fn (fn (fn (fn (fn (fn (fn (fn (fn (fn (fn f0)))))))))))))))))))))))))))))))))))))))))))))))))), rfl, by omega, rfl, H4⟩
        · rintro n l w5 ⟨q, y, rfl, hfit, rfl, hq, hpre, H5⟩
          obtain ⟨j, rfl⟩ := hfit.open
          change Run _ _ _ _ [_, _, _, _, _, _, _, _, _, _, _, _, _, _, _, _, _, _, _, _, _, _, _, _, _, _, _, _, _, _, _, _, _, _, _, _, _, _, _, _, _, _, _, _, _, _, _, _, _, _] _
          clear hfit
          have hfl := frame_length ((b.drop 8).take nn)
          refine run_seq ?_
          refine run_seq ?_
          refine run_region ?_
          refine ops_val (ex_move rfl) ?_
          refine ops_test (ex_lss rfl rfl) (fun hp35 => ?_) (fun hp35 => ?_)
          · have hqf : q < (frame ((b.drop 8).take nn)).length := by omega
            have hqb : q < b.length := by omega
            obtain ⟨gx, rfl⟩ : ∃ x, gf = some x := by
              cases gf with
              | none => have := hgf rfl; omega
              | some x => exact ⟨x, rfl⟩
            obtain ⟨a, rfl⟩ := hr.some_ (by omega)
            refine ops_nil ?_
            change Run _ _ _ _ [_, _, _, _, _, _, _, _, _, _, _, _, _, _, _, _, _, _, _, _, _, _, _, _, _, _, _, _, _, _, _, _, _, _, _, _, _, _, _, _, _, _, _, _, _, _, _, _, _, _] _
            refine run_cond_true rfl ?_
            refine run_skip ?_
            refine run_seq ?_
            refine run_block ?_
            refine run_seq ?_
            refine run_mixH [(true, 0), (true, 1), (true, 2), (true, 3), (true, 4), (true, 5), (true, 6), (true, 7), (true, 8)] H5 [1] mixed (by decide) (by kernel_rfl) ?_
            rintro w6 hw6
            have H6 := Hp.drew H5; rw [← hw6] at H6
            refine mix_p rfl ?_
            refine mix1_val (fun wz hz => ex_move rfl) ?_
            refine mix_p rfl ?_
            refine mix1_val (fun wz hz => ex_move rfl) ?_
            refine mix_p rfl ?_
            refine mix1_val (fun wz hz => ex_idx Tryd.underlying22 ty5 rfl rfl rfl hqf (Nat.mul_one _)) ?_
            refine mix_p rfl ?_
            refine mix1_val (fun wz hz => ex_load ty5 rfl ((hz.rd (i := 0) (o := some gx) (xs := u8s (frame ((b.drop 8).take nn))) (sp := sf) rfl (u8s_length1 _) (by decide)).cells _ rfl q (.int .u8 ((frame ((b.drop 8).take nn))[q].toNat : Int)) (u8s_get hqf))) ?_
            change Mixes _ _ _ _ _ _ [_, _, _, _, _, _, _, _, _, _, _, _, _, _, _, _, _, _, _, _, _, _, _, _, _, _, _, _, _, _, _, _, _, _, _, _, _, _, _, _, _, _, _, _, _, _, _, _, _, _] _
            refine mix_p rfl ?_
            refine mix1_val (fun wz hz => ex_move rfl) ?_
            refine mix_p rfl ?_
            refine mix1_val (fun wz hz => ex_move rfl) ?_
            refine mix_p rfl ?_
            refine mix1_val (fun wz hz => ex_idx Tryd.underlying22 ty5 rfl rfl rfl hqb (Nat.mul_one _)) ?_
            refine mix_p rfl ?_
            refine mix1_val (fun wz hz => ex_load ty5 rfl ((hr.to0 hz).cells a rfl q (.int .u8 (b[q].toNat : Int)) (u8s_get hqb))) ?_
            change Mixes _ _ _ _ _ _ [_, _, _, _, _, _, _, _, _, _, _, _, _, _, _, _, _, _, _, _, _, _, _, _, _, _, _, _, _, _, _, _, _, _, _, _, _, _, _, _, _, _, _, _, _, _, _, _, _, _] _
            refine mix_p rfl ?_
            refine mix1_test (fun wz hz => ex_neq rfl rfl) (fun hp46 => ?_) (fun hp46 => ?_)
            · have hne : ¬ (sum (b.take 4 ++ ((b.drop 8).take nn))).toNat = wordOf (b.drop 4) := by
                intro hs
                have h8 := hfe.2 hs
                have h9 := congrArg (fun z => z[q]?) h8
                simp only [List.getElem?_take, show q < 8 by omega, if_true, List.getElem?_eq_getElem hqf, List.getElem?_eq_getElem hqb, Option.some.injEq] at h9
                rw [h9] at hp46
                exact hp46 rfl
              refine mix_nil ?_
              change Run _ _ _ _ [_, _, _, _, _, _, _, _, _, _, _, _, _, _, _, _, _, _, _, _, _, _, _, _, _, _, _, _, _, _, _, _, _, _, _, _, _, _, _, _, _, _, _, _, _, _, _, _, _, _] _
              refine run_cond_true rfl ?_
              refine run_seq ?_
              refine run_region ?_
              refine ops_val (ex_assign rfl) ?_
              refine ops_val (ex_assign rfl) ?_
              refine ops_val (ex_assign rfl) ?_
              refine ops_nil ?_
              change Run _ _ _ _ [_, _, _, _, _, _, _, _, _, _, _, _, _, _, _, _, _, _, _, _, _, _, _, _, _, _, _, _, _, _, _, _, _, _, _, _, _, _, _, _, _, _, _, _, _, _, _, _, _, _] _
              refine run_ret ?_
              refine blk_ret ?_
              refine rnd_ret ?_
              refine blk_ret ?_
              refine fin_ret3 rfl rfl rfl rfl ?_
              rw [e4 (by omega) (by omega) (by omega) hne]
              exact ⟨_, rfl, none, 0, [], rfl, Nat.le_refl _, by simp, fun _ => rfl, (H6.pick [] (by decide)).nil 5⟩
            · skip
              refine mix_nil ?_
              change Run _ _ _ _ [_, _, _, _, _, _, _, _, _, _, _, _, _, _, _, _, _, _, _, _, _, _, _, _, _, _, _, _, _, _, _, _, _, _, _, _, _, _, _, _, _, _, _, _, _, _, _, _, _, _] _
              refine run_cond_false rfl ?_
              refine run_skip ?_
              refine run_nil (blk_normal ?_)
              refine run_region ?_
              refine ops_val (ex_move rfl) ?_
              refine ops_val (ex_add rfl rfl (IntWalk.i64_in _ (by omega))) ?_
              refine ops_val (ex_assign rfl) ?_
              refine ops_nil ?_
              change Run _ _ _ _ [_, _, _, _, _, _, _, _, _, _, _, _, _, _, _, _, _, _, _, _, _, _, _, _, _, _, _, _, _, _, _, _, _, _, _, _, _, _, _, _, _, _, _, _, _, _, _, _, _, _] _
              refine run_nil (rnd_normal ?_)
              exact ⟨8 - (q + 1), by omega, q + 1, _, rfl, (fs (fn (fn (fn (fn (fs (fs (fs (fn (fs (fn (fn (fn (fn (fn (fn (fn (fn (fn (fn (fn (fn (fn (fn (fn (fn (fn (fn (fn (fn (fn (fn (fn (fn (fn (fn (fn (fn (fn (fn (fn (fn (fn (fn (fn (fn (fn (fn (fn (fn f0)))))))))))))))))))))))))))))))))))))))))))))))))), rfl, by omega, by rw [← List.take_append_getElem hqf, ← List.take_append_getElem hqb, hpre, UInt8.toNat_inj.1 (show (frame ((b.drop 8).take nn))[q].toNat = b[q].toNat by omega)], H6⟩
          · have hq8 : q = 8 := by omega
            subst hq8
            have hfe2 := hfe.1 hpre
            refine ops_nil ?_
            change Run _ _ _ _ [_, _, _, _, _, _, _, _, _, _, _, _, _, _, _, _, _, _, _, _, _, _, _, _, _, _, _, _, _, _, _, _, _, _, _, _, _, _, _, _, _, _, _, _, _, _, _, _, _, _] _
            refine run_cond_false rfl ?_
            refine run_exit ?_
            refine rnd_exit ?_
            refine blk_exit ?_
            refine run_seq ?_
            refine run_region ?_
            refine ops_val (ex_move rfl) ?_
            refine ops_val (ex_move rfl) ?_
            refine ops_val (ex_add rfl rfl ((IntWalk.i64_in _ (by omega)).trans (show ((8 : Int) + (nn : Int)) = ((8 + nn : Nat) : Int) by omega))) ?_
            refine ops_val (ex_assign rfl) ?_
            change Ops _ _ _ _ _ _ [_, _, _, _, _, _, _, _, _, _, _, _, _, _, _, _, _, _, _, _, _, _, _, _, _, _, _, _, _, _, _, _, _, _, _, _, _, _, _, _, _, _, _, _, _, _, _, _, _, _] _
            refine ops_val (ex_assign rfl) ?_
            refine ops_val (ex_assign rfl) ?_
            refine ops_nil ?_
            change Run _ _ _ _ [_, _, _, _, _, _, _, _, _, _, _, _, _, _, _, _, _, _, _, _, _, _, _, _, _, _, _, _, _, _, _, _, _, _, _, _, _, _, _, _, _, _, _, _, _, _, _, _, _, _] _
            refine run_ret ?_
            refine fin_ret3 rfl rfl rfl rfl ?_
            rw [e5 (by omega) (by omega) (by omega) (by omega)]
            exact ⟨_, rfl, ga1, ca1, sa1, rfl, hma1, hca1, hga1, H5.pick [0] (by decide)⟩
end Go.Proofs.YtlglenbmpikhmaaDoor
