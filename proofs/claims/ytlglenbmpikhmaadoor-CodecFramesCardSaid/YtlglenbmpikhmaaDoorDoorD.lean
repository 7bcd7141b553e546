/- Walks of layer 2, printed by wip/gen/codec.py. -/
import Derived.Test.YtlglenbmpikhmaaDoorDoorC
namespace Go.Proofs.YtlglenbmpikhmaaDoor
open Go Go.RowKit
set_option linter.unusedVariables false
attribute [local irreducible] Still Ops Does Cd
attribute [local irreducible] crc sum
set_option maxRecDepth 100000 in
set_option maxHeartbeats 4000000 in
theorem unframes_any (A : Option Addr) (b : List UInt8) (c : Nat) (w0 : World) (hr : Rd w0 A b.length 1 (u8s b)) (hb : b.length ≤ 140737488351232) (hcc : b.length ≤ c) (hT : Tab w0) :
    Does Tryd.prog 3 #[.slice A b.length c] w0 (fun r w' => r = .bool true ∧ Hp w0 w' [] []) := by
  refine does_of Tryd.func3 Tryd.ntmps3 rfl ?_
  change Run _ _ _ _ [.slice A b.length c, undef, undef, undef, undef, undef, undef, undef, undef, undef, undef, undef, undef, undef, undef, undef, undef, undef, undef, undef, undef, undef, undef, undef, undef, undef, undef, undef, undef, undef, undef, undef, undef, undef, undef, undef, undef, undef, undef, undef, undef, undef, undef, undef, undef] _
  have H := Hp.refl w0
  have hul : (unf b).1.length ≤ b.length := by
    unfold unf
    split
    · simp
    split
    · simp
    split
    · simp
    split
    · simp
    · simp; omega
  refine run_seq ?_
  refine run_region ?_
  refine ops_val (ex_assign rfl) ?_
  refine ops_nil ?_
  change Run _ _ _ _ [_, _, _, _, _, _, _, _, _, _, _, _, _, _, _, _, _, _, _, _, _, _, _, _, _, _, _, _, _, _, _, _, _, _, _, _, _, _, _, _, _, _, _, _, _] _
  refine run_seq ?_
  refine run_region ?_
  refine ops_val (ex_move rfl) ?_
  refine ops_call_slice (ex_call gf7 rfl) (own_any A b c _ (hr.to0 H) 71 (by omega)) ?_
  intro w1 gi ci si ⟨hmi, hci, Hd⟩
  have H1 := H.call0 Hd
  refine ops_val (ex_assign rfl) ?_
  refine ops_nil ?_
  change Run _ _ _ _ [_, _, _, _, _, _, _, _, _, _, _, _, _, _, _, _, _, _, _, _, _, _, _, _, _, _, _, _, _, _, _, _, _, _, _, _, _, _, _, _, _, _, _, _, _] _
  refine run_seq ?_
  refine run_region ?_
  refine ops_val (ex_move rfl) ?_
  refine ops_call_unf (ex_call gf8 rfl) (unframe_any (hd gi) b ci _ (own_rd H1 (i := 0) rfl) (by omega) (by omega) (hT.to H1)) ?_
  intro w2 g1 c1 s1 hm1 hc1 hg1 Hd
  have H2 := H1.call0 Hd
  refine ops_val (ex_move rfl) ?_
  refine ops_val (ex_extract rfl rfl) ?_
  change Ops _ _ _ _ _ _ [_, _, _, _, _, _, _, _, _, _, _, _, _, _, _, _, _, _, _, _, _, _, _, _, _, _, _, _, _, _, _, _, _, _, _, _, _, _, _, _, _, _, _, _, _] _
  refine ops_val (ex_extract rfl rfl) ?_
  refine ops_val (ex_extract rfl rfl) ?_
  refine ops_val (ex_assign rfl) ?_
  refine ops_val (ex_assign rfl) ?_
  change Ops _ _ _ _ _ _ [_, _, _, _, _, _, _, _, _, _, _, _, _, _, _, _, _, _, _, _, _, _, _, _, _, _, _, _, _, _, _, _, _, _, _, _, _, _, _, _, _, _, _, _, _] _
  refine ops_val (ex_assign rfl) ?_
  refine ops_nil ?_
  change Run _ _ _ _ [_, _, _, _, _, _, _, _, _, _, _, _, _, _, _, _, _, _, _, _, _, _, _, _, _, _, _, _, _, _, _, _, _, _, _, _, _, _, _, _, _, _, _, _, _] _
  refine run_seq ?_
  refine run_region ?_
  refine ops_val (ex_move rfl) ?_
  refine ops_call_unf (ex_call gf9 rfl) (runframe_any A b c _ (hr.to0 H2) (by omega) hcc) ?_
  intro w3 g2 c2 s2 hm2 hc2 hg2 Hd
  have H3 := H2.call0 Hd
  refine ops_val (ex_move rfl) ?_
  refine ops_val (ex_extract rfl rfl) ?_
  change Ops _ _ _ _ _ _ [_, _, _, _, _, _, _, _, _, _, _, _, _, _, _, _, _, _, _, _, _, _, _, _, _, _, _, _, _, _, _, _, _, _, _, _, _, _, _, _, _, _, _, _, _] _
  refine ops_val (ex_extract rfl rfl) ?_
  refine ops_val (ex_extract rfl rfl) ?_
  refine ops_val (ex_assign rfl) ?_
  refine ops_val (ex_assign rfl) ?_
  change Ops _ _ _ _ _ _ [_, _, _, _, _, _, _, _, _, _, _, _, _, _, _, _, _, _, _, _, _, _, _, _, _, _, _, _, _, _, _, _, _, _, _, _, _, _, _, _, _, _, _, _, _] _
  refine ops_val (ex_assign rfl) ?_
  refine ops_nil ?_
  change Run _ _ _ _ [_, _, _, _, _, _, _, _, _, _, _, _, _, _, _, _, _, _, _, _, _, _, _, _, _, _, _, _, _, _, _, _, _, _, _, _, _, _, _, _, _, _, _, _, _] _
  refine run_seq ?_
  refine run_region ?_
  refine ops_call_val (ex_call gf10 rfl) (awake_any _) ?_
  intro w4 Hd
  have H4 := H3.call0 Hd
  refine ops_val (ex_move rfl) ?_
  change Ops _ _ _ _ _ _ [_, _, _, _, _, _, _, _, _, _, _, _, _, _, _, _, _, _, _, _, _, _, _, _, _, _, _, _, _, _, _, _, _, _, _, _, _, _, _, _, _, _, _, _, _] _
  refine ops_yes rfl ?_
  refine ops_val (ex_move rfl) ?_
  refine ops_yes rfl ?_
  refine ops_val (ex_move rfl) ?_
  change Ops _ _ _ _ _ _ [_, _, _, _, _, _, _, _, _, _, _, _, _, _, _, _, _, _, _, _, _, _, _, _, _, _, _, _, _, _, _, _, _, _, _, _, _, _, _, _, _, _, _, _, _] _
  refine ops_yes rfl ?_
  have hk := bytes_any (hd g1) (hd g2) _ _ c1 c2 _ (H4.rd (i := 1) (xs := u8s ((unf b).1)) rfl (u8s_length1 _) (by decide)) (H4.rd (i := 2) (xs := u8s ((unf b).1)) rfl (u8s_length1 _) (by decide)) (by omega) (by omega)
  rw [decide_eq_true rfl] at hk
  refine ops_call_val (ex_call gf11 rfl) hk ?_
  intro w5 Hd
  have H5 := H4.call0 Hd
  refine ops_val (ex_pick_t rfl rfl) ?_
  refine ops_val (ex_move rfl) ?_
  change Ops _ _ _ _ _ _ [_, _, _, _, _, _, _, _, _, _, _, _, _, _, _, _, _, _, _, _, _, _, _, _, _, _, _, _, _, _, _, _, _, _, _, _, _, _, _, _, _, _, _, _, _] _
  refine ops_yes rfl ?_
  refine ops_val (ex_move rfl) ?_
  refine ops_yes rfl ?_
  refine ops_val (ex_move rfl) ?_
  change Ops _ _ _ _ _ _ [_, _, _, _, _, _, _, _, _, _, _, _, _, _, _, _, _, _, _, _, _, _, _, _, _, _, _, _, _, _, _, _, _, _, _, _, _, _, _, _, _, _, _, _, _] _
  refine ops_yes rfl ?_
  refine ops_true (ex_eql rfl rfl) (rfl) ?_
  refine ops_val (ex_pick_t rfl rfl) ?_
  refine ops_val (ex_move rfl) ?_
  change Ops _ _ _ _ _ _ [_, _, _, _, _, _, _, _, _, _, _, _, _, _, _, _, _, _, _, _, _, _, _, _, _, _, _, _, _, _, _, _, _, _, _, _, _, _, _, _, _, _, _, _, _] _
  refine ops_yes rfl ?_
  refine ops_val (ex_move rfl) ?_
  refine ops_yes rfl ?_
  refine ops_val (ex_move rfl) ?_
  change Ops _ _ _ _ _ _ [_, _, _, _, _, _, _, _, _, _, _, _, _, _, _, _, _, _, _, _, _, _, _, _, _, _, _, _, _, _, _, _, _, _, _, _, _, _, _, _, _, _, _, _, _] _
  refine ops_yes rfl ?_
  refine ops_true (ex_eql rfl rfl) (rfl) ?_
  refine ops_val (ex_pick_t rfl rfl) ?_
  refine ops_val (ex_move rfl) ?_
  change Ops _ _ _ _ _ _ [_, _, _, _, _, _, _, _, _, _, _, _, _, _, _, _, _, _, _, _, _, _, _, _, _, _, _, _, _, _, _, _, _, _, _, _, _, _, _, _, _, _, _, _, _] _
  refine ops_yes rfl ?_
  refine ops_val (ex_move rfl) ?_
  refine ops_yes rfl ?_
  refine ops_val (ex_move rfl) ?_
  change Ops _ _ _ _ _ _ [_, _, _, _, _, _, _, _, _, _, _, _, _, _, _, _, _, _, _, _, _, _, _, _, _, _, _, _, _, _, _, _, _, _, _, _, _, _, _, _, _, _, _, _, _] _
  refine ops_yes rfl ?_
  refine ops_call_val (ex_call gf12 rfl) (kept_any (hd gi) A b ci c 71 _ (H5.rd (i := 0) (xs := u8s (b ++ [71, 71])) (sp := si) rfl (u8s_length1 _) (by decide)) (hr.to0 H5) hmi (by omega)) ?_
  intro w6 Hd
  have H6 := H5.call0 Hd
  refine ops_val (ex_pick_t rfl rfl) ?_
  refine ops_val (ex_assign rfl) ?_
  refine ops_nil ?_
  change Run _ _ _ _ [_, _, _, _, _, _, _, _, _, _, _, _, _, _, _, _, _, _, _, _, _, _, _, _, _, _, _, _, _, _, _, _, _, _, _, _, _, _, _, _, _, _, _, _, _] _
  refine run_ret ?_
  refine fin_ret1 rfl rfl ?_
  exact ⟨rfl, H6.pick [] (by decide)⟩
set_option maxRecDepth 100000 in
set_option maxHeartbeats 4000000 in
theorem writes_any (v : Nat) (n : Int) (A : Option Addr) (b : List UInt8) (c : Nat) (w0 : World) (hr : Rd w0 A b.length 1 (u8s b)) (hb : b.length ≤ 140737488351232) (hcc : b.length ≤ c) (hT : Tab w0) (hv : v < 2 ^ 64) (hlo : -9223372036854775808 ≤ n) (hhi : n ≤ 9223372036854775807) :
    Does Tryd.prog 4 #[.int .u64 v, .int .i64 n, .slice A b.length c] w0 (fun r w' => r = .bool true ∧ Hp w0 w' [] []) := by
  refine does_of Tryd.func4 Tryd.ntmps4 rfl ?_
  change Run _ _ _ _ [.int .u64 v, .int .i64 n, .slice A b.length c, undef, undef, undef, undef, undef, undef, undef, undef, undef, undef, undef, undef, undef, undef, undef, undef, undef, undef, undef, undef, undef, undef, undef, undef, undef, undef, undef, undef, undef, undef, undef, undef, undef, undef, undef, undef, undef, undef, undef, undef, undef, undef, undef, undef, undef, undef, undef, undef, undef, undef, undef, undef, undef, undef, undef, undef, undef, undef, undef, undef, undef, undef, undef, undef, undef, undef, undef] _
  have H := Hp.refl w0
  have hfl : (frameOf b).1.length ≤ 65544 := by
    unfold frameOf
    split
    · simp
    · rw [frame_length]; omega
  have hl1 := enc_len64 hv
  have hl2 := enc_len64 (zig_lt n hlo hhi)
  have hl3 := enc_len64 (v := b.length) (by omega)
  rw [← encInt_eq] at hl2
  have hl4 : (encText b).length = (enc b.length).length + b.length := by rw [encText_eq, List.length_append]
  refine run_seq ?_
  refine run_region ?_
  refine ops_val (ex_assign rfl) ?_
  refine ops_nil ?_
  change Run _ _ _ _ [_, _, _, _, _, _, _, _, _, _, _, _, _, _, _, _, _, _, _, _, _, _, _, _, _, _, _, _, _, _, _, _, _, _, _, _, _, _, _, _, _, _, _, _, _, _, _, _, _, _, _, _, _, _, _, _, _, _, _, _, _, _, _, _, _, _, _, _, _, _] _
  refine run_seq ?_
  refine run_region ?_
  refine ops_val (ex_move rfl) ?_
  refine ops_call_slice (ex_call gf7 rfl) (own_any A b c _ (hr.to0 H) 71 (by omega)) ?_
  intro w1 gi ci si ⟨hmi, hci, Hd⟩
  have H1 := H.call0 Hd
  refine ops_val (ex_assign rfl) ?_
  refine ops_nil ?_
  change Run _ _ _ _ [_, _, _, _, _, _, _, _, _, _, _, _, _, _, _, _, _, _, _, _, _, _, _, _, _, _, _, _, _, _, _, _, _, _, _, _, _, _, _, _, _, _, _, _, _, _, _, _, _, _, _, _, _, _, _, _, _, _, _, _, _, _, _, _, _, _, _, _, _, _] _
  refine run_seq ?_
  refine run_region ?_
  refine ops_val (ex_move rfl) ?_
  refine ops_call_frm (ex_call gf13 rfl) (frame_any (hd gi) b ci _ (own_rd H1 (i := 0) rfl) (by omega) (hT.to H1)) ?_
  intro w2 g1 c1 s1 hm1 hc1 hg1 Hd
  have H2 := H1.call0 Hd
  refine ops_val (ex_move rfl) ?_
  refine ops_val (ex_extract rfl rfl) ?_
  change Ops _ _ _ _ _ _ [_, _, _, _, _, _, _, _, _, _, _, _, _, _, _, _, _, _, _, _, _, _, _, _, _, _, _, _, _, _, _, _, _, _, _, _, _, _, _, _, _, _, _, _, _, _, _, _, _, _, _, _, _, _, _, _, _, _, _, _, _, _, _, _, _, _, _, _, _, _] _
  refine ops_val (ex_extract rfl rfl) ?_
  refine ops_val (ex_assign rfl) ?_
  refine ops_val (ex_assign rfl) ?_
  refine ops_nil ?_
  change Run _ _ _ _ [_, _, _, _, _, _, _, _, _, _, _, _, _, _, _, _, _, _, _, _, _, _, _, _, _, _, _, _, _, _, _, _, _, _, _, _, _, _, _, _, _, _, _, _, _, _, _, _, _, _, _, _, _, _, _, _, _, _, _, _, _, _, _, _, _, _, _, _, _, _] _
  refine run_seq ?_
  refine run_region ?_
  refine ops_val (ex_move rfl) ?_
  refine ops_call_frm (ex_call gf14 rfl) (rframe_any A b c _ (hr.to0 H2) (by omega)) ?_
  intro w3 g2 c2 s2 hm2 hc2 hg2 Hd
  have H3 := H2.call0 Hd
  refine ops_val (ex_move rfl) ?_
  refine ops_val (ex_extract rfl rfl) ?_
  change Ops _ _ _ _ _ _ [_, _, _, _, _, _, _, _, _, _, _, _, _, _, _, _, _, _, _, _, _, _, _, _, _, _, _, _, _, _, _, _, _, _, _, _, _, _, _, _, _, _, _, _, _, _, _, _, _, _, _, _, _, _, _, _, _, _, _, _, _, _, _, _, _, _, _, _, _, _] _
  refine ops_val (ex_extract rfl rfl) ?_
  refine ops_val (ex_assign rfl) ?_
  refine ops_val (ex_assign rfl) ?_
  refine ops_nil ?_
  change Run _ _ _ _ [_, _, _, _, _, _, _, _, _, _, _, _, _, _, _, _, _, _, _, _, _, _, _, _, _, _, _, _, _, _, _, _, _, _, _, _, _, _, _, _, _, _, _, _, _, _, _, _, _, _, _, _, _, _, _, _, _, _, _, _, _, _, _, _, _, _, _, _, _, _] _
  refine run_seq ?_
  refine run_region ?_
  refine ops_val (ex_move rfl) ?_
  refine ops_call_own (ex_call gf15 rfl) (num_any v _ hv) ?_
  intro w4 g3 c3 s3 hm3 hc3 hg3 Hd
  have H4 := H3.call0 Hd
  refine ops_val (ex_move rfl) ?_
  refine ops_call_own (ex_call gf16 rfl) (rnum_any v _ hv) ?_
  intro w5 g4 c4 s4 hm4 hc4 hg4 Hd
  have H5 := H4.call0 Hd
  change Ops _ _ _ _ _ _ [_, _, _, _, _, _, _, _, _, _, _, _, _, _, _, _, _, _, _, _, _, _, _, _, _, _, _, _, _, _, _, _, _, _, _, _, _, _, _, _, _, _, _, _, _, _, _, _, _, _, _, _, _, _, _, _, _, _, _, _, _, _, _, _, _, _, _, _, _, _] _
  have hk := bytes_any (hd g3) (hd g4) _ _ c3 c4 _ (H5.rd (i := 3) (xs := u8s (enc v)) rfl (u8s_length1 _) (by decide)) (H5.rd (i := 4) (xs := u8s (enc v)) rfl (u8s_length1 _) (by decide)) (by omega) (by omega)
  rw [decide_eq_true rfl] at hk
  refine ops_call_val (ex_call gf11 rfl) hk ?_
  intro w6 Hd
  have H6 := H5.call0 Hd
  refine ops_val (ex_move rfl) ?_
  change Ops _ _ _ _ _ _ [_, _, _, _, _, _, _, _, _, _, _, _, _, _, _, _, _, _, _, _, _, _, _, _, _, _, _, _, _, _, _, _, _, _, _, _, _, _, _, _, _, _, _, _, _, _, _, _, _, _, _, _, _, _, _, _, _, _, _, _, _, _, _, _, _, _, _, _, _, _] _
  refine ops_yes rfl ?_
  refine ops_val (ex_move rfl) ?_
  refine ops_yes rfl ?_
  refine ops_call_own (ex_call gf17 rfl) (int_any n _ hlo hhi) ?_
  intro w7 g5 c5 s5 hm5 hc5 hg5 Hd
  have H7 := H6.call0 Hd
  change Ops _ _ _ _ _ _ [_, _, _, _, _, _, _, _, _, _, _, _, _, _, _, _, _, _, _, _, _, _, _, _, _, _, _, _, _, _, _, _, _, _, _, _, _, _, _, _, _, _, _, _, _, _, _, _, _, _, _, _, _, _, _, _, _, _, _, _, _, _, _, _, _, _, _, _, _, _] _
  refine ops_yes rfl ?_
  refine ops_val (ex_move rfl) ?_
  refine ops_yes rfl ?_
  refine ops_call_own (ex_call gf18 rfl) (rint_any n _ hlo hhi) ?_
  intro w8 g6 c6 s6 hm6 hc6 hg6 Hd
  have H8 := H7.call0 Hd
  change Ops _ _ _ _ _ _ [_, _, _, _, _, _, _, _, _, _, _, _, _, _, _, _, _, _, _, _, _, _, _, _, _, _, _, _, _, _, _, _, _, _, _, _, _, _, _, _, _, _, _, _, _, _, _, _, _, _, _, _, _, _, _, _, _, _, _, _, _, _, _, _, _, _, _, _, _, _] _
  refine ops_yes rfl ?_
  have hk := bytes_any (hd g5) (hd g6) _ _ c5 c6 _ (H8.rd (i := 5) (xs := u8s (encInt n)) rfl (u8s_length1 _) (by decide)) (H8.rd (i := 6) (xs := u8s (encInt n)) rfl (u8s_length1 _) (by decide)) (by omega) (by omega)
  rw [decide_eq_true rfl] at hk
  refine ops_call_val (ex_call gf11 rfl) hk ?_
  intro w9 Hd
  have H9 := H8.call0 Hd
  refine ops_val (ex_pick_t rfl rfl) ?_
  refine ops_val (ex_move rfl) ?_
  change Ops _ _ _ _ _ _ [_, _, _, _, _, _, _, _, _, _, _, _, _, _, _, _, _, _, _, _, _, _, _, _, _, _, _, _, _, _, _, _, _, _, _, _, _, _, _, _, _, _, _, _, _, _, _, _, _, _, _, _, _, _, _, _, _, _, _, _, _, _, _, _, _, _, _, _, _, _] _
  refine ops_yes rfl ?_
  refine ops_val (ex_move rfl) ?_
  refine ops_yes rfl ?_
  refine ops_call_own (ex_call gf19 rfl) (text_any (hd gi) b ci _ (own_rd H9 (i := 0) rfl) (by omega)) ?_
  intro w10 g7 c7 s7 hm7 hc7 hg7 Hd
  have H10 := H9.call0 Hd
  change Ops _ _ _ _ _ _ [_, _, _, _, _, _, _, _, _, _, _, _, _, _, _, _, _, _, _, _, _, _, _, _, _, _, _, _, _, _, _, _, _, _, _, _, _, _, _, _, _, _, _, _, _, _, _, _, _, _, _, _, _, _, _, _, _, _, _, _, _, _, _, _, _, _, _, _, _, _] _
  refine ops_yes rfl ?_
  refine ops_val (ex_move rfl) ?_
  refine ops_yes rfl ?_
  refine ops_call_own (ex_call gf20 rfl) (rtext_any A b c _ (hr.to0 H10) (by omega)) ?_
  intro w11 g8 c8 s8 hm8 hc8 hg8 Hd
  have H11 := H10.call0 Hd
  change Ops _ _ _ _ _ _ [_, _, _, _, _, _, _, _, _, _, _, _, _, _, _, _, _, _, _, _, _, _, _, _, _, _, _, _, _, _, _, _, _, _, _, _, _, _, _, _, _, _, _, _, _, _, _, _, _, _, _, _, _, _, _, _, _, _, _, _, _, _, _, _, _, _, _, _, _, _] _
  refine ops_yes rfl ?_
  have hk := bytes_any (hd g7) (hd g8) _ _ c7 c8 _ (H11.rd (i := 7) (xs := u8s (encText b)) rfl (u8s_length1 _) (by decide)) (H11.rd (i := 8) (xs := u8s (encText b)) rfl (u8s_length1 _) (by decide)) (by omega) (by omega)
  rw [decide_eq_true rfl] at hk
  refine ops_call_val (ex_call gf11 rfl) hk ?_
  intro w12 Hd
  have H12 := H11.call0 Hd
  refine ops_val (ex_pick_t rfl rfl) ?_
  refine ops_val (ex_assign rfl) ?_
  refine ops_nil ?_
  change Run _ _ _ _ [_, _, _, _, _, _, _, _, _, _, _, _, _, _, _, _, _, _, _, _, _, _, _, _, _, _, _, _, _, _, _, _, _, _, _, _, _, _, _, _, _, _, _, _, _, _, _, _, _, _, _, _, _, _, _, _, _, _, _, _, _, _, _, _, _, _, _, _, _, _] _
  refine run_seq ?_
  refine run_region ?_
  refine ops_call_val (ex_call gf10 rfl) (awake_any _) ?_
  intro w13 Hd
  have H13 := H12.call0 Hd
  refine ops_val (ex_move rfl) ?_
  change Ops _ _ _ _ _ _ [_, _, _, _, _, _, _, _, _, _, _, _, _, _, _, _, _, _, _, _, _, _, _, _, _, _, _, _, _, _, _, _, _, _, _, _, _, _, _, _, _, _, _, _, _, _, _, _, _, _, _, _, _, _, _, _, _, _, _, _, _, _, _, _, _, _, _, _, _, _] _
  refine ops_yes rfl ?_
  refine ops_val (ex_move rfl) ?_
  refine ops_val (ex_pick_t rfl rfl) ?_
  refine ops_val (ex_move rfl) ?_
  change Ops _ _ _ _ _ _ [_, _, _, _, _, _, _, _, _, _, _, _, _, _, _, _, _, _, _, _, _, _, _, _, _, _, _, _, _, _, _, _, _, _, _, _, _, _, _, _, _, _, _, _, _, _, _, _, _, _, _, _, _, _, _, _, _, _, _, _, _, _, _, _, _, _, _, _, _, _] _
  refine ops_yes rfl ?_
  refine ops_val (ex_move rfl) ?_
  refine ops_yes rfl ?_
  refine ops_call_val (ex_call gf21 rfl) (sum_any (hd gi) b ci _ (own_rd H13 (i := 0) rfl) (by omega) (hT.to H13)) ?_
  intro w14 Hd
  have H14 := H13.call0 Hd
  change Ops _ _ _ _ _ _ [_, _, _, _, _, _, _, _, _, _, _, _, _, _, _, _, _, _, _, _, _, _, _, _, _, _, _, _, _, _, _, _, _, _, _, _, _, _, _, _, _, _, _, _, _, _, _, _, _, _, _, _, _, _, _, _, _, _, _, _, _, _, _, _, _, _, _, _, _, _] _
  refine ops_yes rfl ?_
  refine ops_val (ex_move rfl) ?_
  refine ops_yes rfl ?_
  refine ops_call_val (ex_call gf22 rfl) (rsum_any A b c _ (hr.to0 H14) (by omega)) ?_
  intro w15 Hd
  have H15 := H14.call0 Hd
  change Ops _ _ _ _ _ _ [_, _, _, _, _, _, _, _, _, _, _, _, _, _, _, _, _, _, _, _, _, _, _, _, _, _, _, _, _, _, _, _, _, _, _, _, _, _, _, _, _, _, _, _, _, _, _, _, _, _, _, _, _, _, _, _, _, _, _, _, _, _, _, _, _, _, _, _, _, _] _
  refine ops_yes rfl ?_
  refine ops_true (ex_eql rfl rfl) (rfl) ?_
  refine ops_val (ex_pick_t rfl rfl) ?_
  refine ops_val (ex_move rfl) ?_
  change Ops _ _ _ _ _ _ [_, _, _, _, _, _, _, _, _, _, _, _, _, _, _, _, _, _, _, _, _, _, _, _, _, _, _, _, _, _, _, _, _, _, _, _, _, _, _, _, _, _, _, _, _, _, _, _, _, _, _, _, _, _, _, _, _, _, _, _, _, _, _, _, _, _, _, _, _, _] _
  refine ops_yes rfl ?_
  refine ops_val (ex_move rfl) ?_
  refine ops_yes rfl ?_
  refine ops_val (ex_move rfl) ?_
  change Ops _ _ _ _ _ _ [_, _, _, _, _, _, _, _, _, _, _, _, _, _, _, _, _, _, _, _, _, _, _, _, _, _, _, _, _, _, _, _, _, _, _, _, _, _, _, _, _, _, _, _, _, _, _, _, _, _, _, _, _, _, _, _, _, _, _, _, _, _, _, _, _, _, _, _, _, _] _
  refine ops_yes rfl ?_
  have hk := bytes_any (hd g1) (hd g2) _ _ c1 c2 _ (H15.rd (i := 1) (xs := u8s ((frameOf b).1)) rfl (u8s_length1 _) (by decide)) (H15.rd (i := 2) (xs := u8s ((frameOf b).1)) rfl (u8s_length1 _) (by decide)) (by omega) (by omega)
  rw [decide_eq_true rfl] at hk
  refine ops_call_val (ex_call gf11 rfl) hk ?_
  intro w16 Hd
  have H16 := H15.call0 Hd
  refine ops_val (ex_pick_t rfl rfl) ?_
  refine ops_val (ex_move rfl) ?_
  change Ops _ _ _ _ _ _ [_, _, _, _, _, _, _, _, _, _, _, _, _, _, _, _, _, _, _, _, _, _, _, _, _, _, _, _, _, _, _, _, _, _, _, _, _, _, _, _, _, _, _, _, _, _, _, _, _, _, _, _, _, _, _, _, _, _, _, _, _, _, _, _, _, _, _, _, _, _] _
  refine ops_yes rfl ?_
  refine ops_val (ex_move rfl) ?_
  refine ops_yes rfl ?_
  refine ops_val (ex_move rfl) ?_
  change Ops _ _ _ _ _ _ [_, _, _, _, _, _, _, _, _, _, _, _, _, _, _, _, _, _, _, _, _, _, _, _, _, _, _, _, _, _, _, _, _, _, _, _, _, _, _, _, _, _, _, _, _, _, _, _, _, _, _, _, _, _, _, _, _, _, _, _, _, _, _, _, _, _, _, _, _, _] _
  refine ops_yes rfl ?_
  refine ops_true (ex_eql rfl rfl) (rfl) ?_
  refine ops_val (ex_pick_t rfl rfl) ?_
  refine ops_val (ex_move rfl) ?_
  change Ops _ _ _ _ _ _ [_, _, _, _, _, _, _, _, _, _, _, _, _, _, _, _, _, _, _, _, _, _, _, _, _, _, _, _, _, _, _, _, _, _, _, _, _, _, _, _, _, _, _, _, _, _, _, _, _, _, _, _, _, _, _, _, _, _, _, _, _, _, _, _, _, _, _, _, _, _] _
  refine ops_yes rfl ?_
  refine ops_val (ex_move rfl) ?_
  refine ops_yes rfl ?_
  refine ops_val (ex_move rfl) ?_
  change Ops _ _ _ _ _ _ [_, _, _, _, _, _, _, _, _, _, _, _, _, _, _, _, _, _, _, _, _, _, _, _, _, _, _, _, _, _, _, _, _, _, _, _, _, _, _, _, _, _, _, _, _, _, _, _, _, _, _, _, _, _, _, _, _, _, _, _, _, _, _, _, _, _, _, _, _, _] _
  refine ops_yes rfl ?_
  refine ops_call_val (ex_call gf12 rfl) (kept_any (hd gi) A b ci c 71 _ (H16.rd (i := 0) (xs := u8s (b ++ [71, 71])) (sp := si) rfl (u8s_length1 _) (by decide)) (hr.to0 H16) hmi (by omega)) ?_
  intro w17 Hd
  have H17 := H16.call0 Hd
  refine ops_val (ex_pick_t rfl rfl) ?_
  refine ops_val (ex_assign rfl) ?_
  refine ops_nil ?_
  change Run _ _ _ _ [_, _, _, _, _, _, _, _, _, _, _, _, _, _, _, _, _, _, _, _, _, _, _, _, _, _, _, _, _, _, _, _, _, _, _, _, _, _, _, _, _, _, _, _, _, _, _, _, _, _, _, _, _, _, _, _, _, _, _, _, _, _, _, _, _, _, _, _, _, _] _
  refine run_ret ?_
  refine fin_ret1 rfl rfl ?_
  exact ⟨rfl, H17.pick [] (by decide)⟩
set_option maxRecDepth 100000 in
set_option maxHeartbeats 4000000 in
theorem frames_long (A : Option Addr) (b : List UInt8) (c : Nat) (A2 : Option Addr) (b2 : List UInt8) (c2 : Nat) (n : Int) (w0 : World) (hr : Rd w0 A b.length 1 (u8s b)) (hb : b.length ≤ 140737488351232) (hcc : b.length ≤ c) (hr2 : Rd w0 A2 b2.length 1 (u8s b2)) (hb2 : b2.length ≤ 140737488351232) (hT : Tab w0) (hlo : -9223372036854775808 ≤ n) (hhi : n ≤ 9223372036854775807) (hlg : 65536 < b.length) :
    Does Tryd.prog 5 #[.slice A b.length c, .slice A2 b2.length c2, .int .i64 n] w0 (fun r w' => r = .bool true ∧ Hp w0 w' [] []) := by
  refine does_of Tryd.func5 Tryd.ntmps5 rfl ?_
  change Run _ _ _ _ [.slice A b.length c, .slice A2 b2.length c2, .int .i64 n, undef, undef, undef, undef, undef, undef, undef, undef, undef, undef, undef, undef, undef, undef, undef, undef, undef, undef, undef, undef, undef, undef, undef, undef, undef, undef, undef, undef, undef, undef, undef, undef, undef, undef, undef, undef, undef, undef, undef, undef, undef, undef, undef, undef, undef, undef, undef, undef, undef, undef, undef, undef, undef, undef, undef, undef, undef, undef, undef, undef, undef, undef, undef, undef, undef, undef, undef, undef, undef, undef, undef, undef, undef, undef, undef, undef, undef, undef, undef, undef, undef, undef, undef, undef, undef, undef, undef, undef, undef, undef, undef, undef, undef] _
  have H := Hp.refl w0
  refine run_seq ?_
  refine run_region ?_
  refine ops_val (ex_assign rfl) ?_
  refine ops_nil ?_
  change Run _ _ _ _ [_, _, _, _, _, _, _, _, _, _, _, _, _, _, _, _, _, _, _, _, _, _, _, _, _, _, _, _, _, _, _, _, _, _, _, _, _, _, _, _, _, _, _, _, _, _, _, _, _, _, _, _, _, _, _, _, _, _, _, _, _, _, _, _, _, _, _, _, _, _, _, _, _, _, _, _, _, _, _, _, _, _, _, _, _, _, _, _, _, _, _, _, _, _, _, _] _
  refine run_seq ?_
  refine run_region ?_
  refine ops_val (ex_move rfl) ?_
  have hk := frame_any A b c _ (hr.to0 H) (by omega) (hT.to H)
  rw [show frameOf b = ([], 22) from if_pos hlg] at hk
  dsimp only at hk
  refine ops_call_frm (ex_call gf13 rfl) hk ?_
  intro w1 g1 c1 s1 hm1 hc1 hg1 Hd
  have H1 := H.call0 Hd
  refine ops_val (ex_move rfl) ?_
  refine ops_val (ex_extract rfl rfl) ?_
  change Ops _ _ _ _ _ _ [_, _, _, _, _, _, _, _, _, _, _, _, _, _, _, _, _, _, _, _, _, _, _, _, _, _, _, _, _, _, _, _, _, _, _, _, _, _, _, _, _, _, _, _, _, _, _, _, _, _, _, _, _, _, _, _, _, _, _, _, _, _, _, _, _, _, _, _, _, _, _, _, _, _, _, _, _, _, _, _, _, _, _, _, _, _, _, _, _, _, _, _, _, _, _, _] _
  refine ops_val (ex_extract rfl rfl) ?_
  refine ops_val (ex_assign rfl) ?_
  refine ops_val (ex_assign rfl) ?_
  refine ops_nil ?_
  change Run _ _ _ _ [_, _, _, _, _, _, _, _, _, _, _, _, _, _, _, _, _, _, _, _, _, _, _, _, _, _, _, _, _, _, _, _, _, _, _, _, _, _, _, _, _, _, _, _, _, _, _, _, _, _, _, _, _, _, _, _, _, _, _, _, _, _, _, _, _, _, _, _, _, _, _, _, _, _, _, _, _, _, _, _, _, _, _, _, _, _, _, _, _, _, _, _, _, _, _, _] _
  refine run_seq ?_
  refine run_seq ?_
  refine run_region ?_
  refine ops_call_val (ex_call gf10 rfl) (awake_any _) ?_
  intro w2 Hd
  have H2 := H1.call0 Hd
  refine ops_val (ex_not rfl) ?_
  refine ops_nil ?_
  change Run _ _ _ _ [_, _, _, _, _, _, _, _, _, _, _, _, _, _, _, _, _, _, _, _, _, _, _, _, _, _, _, _, _, _, _, _, _, _, _, _, _, _, _, _, _, _, _, _, _, _, _, _, _, _, _, _, _, _, _, _, _, _, _, _, _, _, _, _, _, _, _, _, _, _, _, _, _, _, _, _, _, _, _, _, _, _, _, _, _, _, _, _, _, _, _, _, _, _, _, _] _
  refine run_cond_false rfl ?_
  refine run_skip ?_
  refine run_seq ?_
  refine run_seq ?_
  refine run_region ?_
  refine ops_val (ex_move rfl) ?_
  refine ops_true (ex_neq rfl rfl) (by simp) ?_
  refine ops_nil ?_
  change Run _ _ _ _ [_, _, _, _, _, _, _, _, _, _, _, _, _, _, _, _, _, _, _, _, _, _, _, _, _, _, _, _, _, _, _, _, _, _, _, _, _, _, _, _, _, _, _, _, _, _, _, _, _, _, _, _, _, _, _, _, _, _, _, _, _, _, _, _, _, _, _, _, _, _, _, _, _, _, _, _, _, _, _, _, _, _, _, _, _, _, _, _, _, _, _, _, _, _, _, _] _
  refine run_cond_true rfl ?_
  refine run_seq ?_
  refine run_region ?_
  refine ops_val (ex_move rfl) ?_
  refine ops_val (ex_len_slice Tryd.underlying22 rfl) ?_
  refine ops_true (ex_gtr rfl rfl) (by omega) ?_
  refine ops_val (ex_move rfl) ?_
  change Ops _ _ _ _ _ _ [_, _, _, _, _, _, _, _, _, _, _, _, _, _, _, _, _, _, _, _, _, _, _, _, _, _, _, _, _, _, _, _, _, _, _, _, _, _, _, _, _, _, _, _, _, _, _, _, _, _, _, _, _, _, _, _, _, _, _, _, _, _, _, _, _, _, _, _, _, _, _, _, _, _, _, _, _, _, _, _, _, _, _, _, _, _, _, _, _, _, _, _, _, _, _, _] _
  refine ops_yes rfl ?_
  refine ops_val (ex_move rfl) ?_
  refine ops_yes rfl ?_
  refine ops_val (ex_len_slice Tryd.underlying22 rfl) ?_
  change Ops _ _ _ _ _ _ [_, _, _, _, _, _, _, _, _, _, _, _, _, _, _, _, _, _, _, _, _, _, _, _, _, _, _, _, _, _, _, _, _, _, _, _, _, _, _, _, _, _, _, _, _, _, _, _, _, _, _, _, _, _, _, _, _, _, _, _, _, _, _, _, _, _, _, _, _, _, _, _, _, _, _, _, _, _, _, _, _, _, _, _, _, _, _, _, _, _, _, _, _, _, _, _] _
  refine ops_yes rfl ?_
  refine ops_true (ex_eql rfl rfl) (rfl) ?_
  refine ops_val (ex_pick_t rfl rfl) ?_
  refine ops_val (ex_assign rfl) ?_
  refine ops_nil ?_
  change Run _ _ _ _ [_, _, _, _, _, _, _, _, _, _, _, _, _, _, _, _, _, _, _, _, _, _, _, _, _, _, _, _, _, _, _, _, _, _, _, _, _, _, _, _, _, _, _, _, _, _, _, _, _, _, _, _, _, _, _, _, _, _, _, _, _, _, _, _, _, _, _, _, _, _, _, _, _, _, _, _, _, _, _, _, _, _, _, _, _, _, _, _, _, _, _, _, _, _, _, _] _
  refine run_ret ?_
  refine fin_ret1 rfl rfl ?_
  exact ⟨rfl, H2.pick [] (by decide)⟩
set_option maxRecDepth 100000 in
set_option maxHeartbeats 4000000 in
theorem frames_any (A : Option Addr) (b : List UInt8) (c : Nat) (A2 : Option Addr) (b2 : List UInt8) (c2 : Nat) (n : Int) (w0 : World) (hr : Rd w0 A b.length 1 (u8s b)) (hb : b.length ≤ 140737488351232) (hcc : b.length ≤ c) (hr2 : Rd w0 A2 b2.length 1 (u8s b2)) (hb2 : b2.length ≤ 140737488351232) (hT : Tab w0) (hlo : -9223372036854775808 ≤ n) (hhi : n ≤ 9223372036854775807) (hlg : b.length ≤ 65536) :
    Does Tryd.prog 5 #[.slice A b.length c, .slice A2 b2.length c2, .int .i64 n] w0 (fun r w' => r = .bool true ∧ Hp w0 w' [] []) := by
  refine does_of Tryd.func5 Tryd.ntmps5 rfl ?_
  change Run _ _ _ _ [.slice A b.length c, .slice A2 b2.length c2, .int .i64 n, undef, undef, undef, undef, undef, undef, undef, undef, undef, undef, undef, undef, undef, undef, undef, undef, undef, undef, undef, undef, undef, undef, undef, undef, undef, undef, undef, undef, undef, undef, undef, undef, undef, undef, undef, undef, undef, undef, undef, undef, undef, undef, undef, undef, undef, undef, undef, undef, undef, undef, undef, undef, undef, undef, undef, undef, undef, undef, undef, undef, undef, undef, undef, undef, undef, undef, undef, undef, undef, undef, undef, undef, undef, undef, undef, undef, undef, undef, undef, undef, undef, undef, undef, undef, undef, undef, undef, undef, undef, undef, undef, undef, undef] _
  have H := Hp.refl w0
  have hfl := frame_length b
  refine run_seq ?_
  refine run_region ?_
  refine ops_val (ex_assign rfl) ?_
  refine ops_nil ?_
  change Run _ _ _ _ [_, _, _, _, _, _, _, _, _, _, _, _, _, _, _, _, _, _, _, _, _, _, _, _, _, _, _, _, _, _, _, _, _, _, _, _, _, _, _, _, _, _, _, _, _, _, _, _, _, _, _, _, _, _, _, _, _, _, _, _, _, _, _, _, _, _, _, _, _, _, _, _, _, _, _, _, _, _, _, _, _, _, _, _, _, _, _, _, _, _, _, _, _, _, _, _] _
  refine run_seq ?_
  refine run_region ?_
  refine ops_val (ex_move rfl) ?_
  have hk := frame_any A b c _ (hr.to0 H) (by omega) (hT.to H)
  rw [show frameOf b = (frame b, 0) from if_neg (by omega)] at hk
  dsimp only at hk
  refine ops_call_frm (ex_call gf13 rfl) hk ?_
  intro w1 g1 c1 s1 hm1 hc1 hg1 Hd
  have H1 := H.call0 Hd
  refine ops_val (ex_move rfl) ?_
  refine ops_val (ex_extract rfl rfl) ?_
  change Ops _ _ _ _ _ _ [_, _, _, _, _, _, _, _, _, _, _, _, _, _, _, _, _, _, _, _, _, _, _, _, _, _, _, _, _, _, _, _, _, _, _, _, _, _, _, _, _, _, _, _, _, _, _, _, _, _, _, _, _, _, _, _, _, _, _, _, _, _, _, _, _, _, _, _, _, _, _, _, _, _, _, _, _, _, _, _, _, _, _, _, _, _, _, _, _, _, _, _, _, _, _, _] _
  refine ops_val (ex_extract rfl rfl) ?_
  refine ops_val (ex_assign rfl) ?_
  refine ops_val (ex_assign rfl) ?_
  refine ops_nil ?_
  change Run _ _ _ _ [_, _, _, _, _, _, _, _, _, _, _, _, _, _, _, _, _, _, _, _, _, _, _, _, _, _, _, _, _, _, _, _, _, _, _, _, _, _, _, _, _, _, _, _, _, _, _, _, _, _, _, _, _, _, _, _, _, _, _, _, _, _, _, _, _, _, _, _, _, _, _, _, _, _, _, _, _, _, _, _, _, _, _, _, _, _, _, _, _, _, _, _, _, _, _, _] _
  refine run_seq ?_
  refine run_seq ?_
  refine run_region ?_
  refine ops_call_val (ex_call gf10 rfl) (awake_any _) ?_
  intro w2 Hd
  have H2 := H1.call0 Hd
  refine ops_val (ex_not rfl) ?_
  refine ops_nil ?_
  change Run _ _ _ _ [_, _, _, _, _, _, _, _, _, _, _, _, _, _, _, _, _, _, _, _, _, _, _, _, _, _, _, _, _, _, _, _, _, _, _, _, _, _, _, _, _, _, _, _, _, _, _, _, _, _, _, _, _, _, _, _, _, _, _, _, _, _, _, _, _, _, _, _, _, _, _, _, _, _, _, _, _, _, _, _, _, _, _, _, _, _, _, _, _, _, _, _, _, _, _, _] _
  refine run_cond_false rfl ?_
  refine run_skip ?_
  refine run_seq ?_
  refine run_seq ?_
  refine run_region ?_
  refine ops_val (ex_move rfl) ?_
  refine ops_false (ex_neq rfl rfl) (by simp) ?_
  refine ops_nil ?_
  change Run _ _ _ _ [_, _, _, _, _, _, _, _, _, _, _, _, _, _, _, _, _, _, _, _, _, _, _, _, _, _, _, _, _, _, _, _, _, _, _, _, _, _, _, _, _, _, _, _, _, _, _, _, _, _, _, _, _, _, _, _, _, _, _, _, _, _, _, _, _, _, _, _, _, _, _, _, _, _, _, _, _, _, _, _, _, _, _, _, _, _, _, _, _, _, _, _, _, _, _, _] _
  refine run_cond_false rfl ?_
  refine run_skip ?_
  refine run_seq ?_
  refine run_region ?_
  refine ops_buildSlice Tryd.underlying22 ty5 H2 (cs := []) rfl (by decide) rfl ?_
  intro w3 gb H3 hgb
  refine ops_val (ex_move rfl) ?_
  refine ops_app8 Tryd.underlying22 ty5 H3 1 (L := []) (M := frame b) (g := some gb) (sp := []) rfl rfl (by decide) (by decide) (by simp) rfl (H3.rd (i := 0) (o := g1) (xs := u8s (frame b)) (sp := s1) rfl (u8s_length1 _) (by decide)) (by first | (simp [frame_length]; done) | (simp [frame_length]; omega)) ?_
  intro w4 ga1 ca1 sa1 H4 hma1 hca1 hga1
  refine ops_val (ex_move rfl) ?_
  change Ops _ _ _ _ _ _ [_, _, _, _, _, _, _, _, _, _, _, _, _, _, _, _, _, _, _, _, _, _, _, _, _, _, _, _, _, _, _, _, _, _, _, _, _, _, _, _, _, _, _, _, _, _, _, _, _, _, _, _, _, _, _, _, _, _, _, _, _, _, _, _, _, _, _, _, _, _, _, _, _, _, _, _, _, _, _, _, _, _, _, _, _, _, _, _, _, _, _, _, _, _, _, _] _
  refine ops_app8 Tryd.underlying22 ty5 H4 1 (L := [] ++ frame b) (M := b2) (g := ga1) (sp := sa1) rfl rfl (hca1) (hma1) (hga1) rfl (hr2.to0 H4) (by first | (simp [frame_length]; done) | (simp [frame_length]; omega)) ?_
  intro w5 ga2 ca2 sa2 H5 hma2 hca2 hga2
  simp only [List.nil_append] at *
  have hk := unframe_any (hd ga2) (frame b ++ b2) ca2 _ (H5.rd (i := 1) (o := ga2) (xs := u8s (frame b ++ b2)) (sp := sa2) rfl (u8s_length1 _) (by decide)) (by rw [List.length_append]; omega) hma2 (hT.to H5)
  rw [unf_frame b b2 (by omega)] at hk
  dsimp only at hk
  refine ops_call_unf (ex_call gf8 rfl) hk ?_
  intro w6 g3 c3 s3 hm3 hc3 hg3 Hd
  have H6 := H5.call0 Hd
  refine ops_val (ex_move rfl) ?_
  refine ops_val (ex_extract rfl rfl) ?_
  change Ops _ _ _ _ _ _ [_, _, _, _, _, _, _, _, _, _, _, _, _, _, _, _, _, _, _, _, _, _, _, _, _, _, _, _, _, _, _, _, _, _, _, _, _, _, _, _, _, _, _, _, _, _, _, _, _, _, _, _, _, _, _, _, _, _, _, _, _, _, _, _, _, _, _, _, _, _, _, _, _, _, _, _, _, _, _, _, _, _, _, _, _, _, _, _, _, _, _, _, _, _, _, _] _
  refine ops_val (ex_extract rfl rfl) ?_
  refine ops_val (ex_extract rfl rfl) ?_
  refine ops_val (ex_assign rfl) ?_
  refine ops_val (ex_assign rfl) ?_
  change Ops _ _ _ _ _ _ [_, _, _, _, _, _, _, _, _, _, _, _, _, _, _, _, _, _, _, _, _, _, _, _, _, _, _, _, _, _, _, _, _, _, _, _, _, _, _, _, _, _, _, _, _, _, _, _, _, _, _, _, _, _, _, _, _, _, _, _, _, _, _, _, _, _, _, _, _, _, _, _, _, _, _, _, _, _, _, _, _, _, _, _, _, _, _, _, _, _, _, _, _, _, _, _] _
  refine ops_val (ex_assign rfl) ?_
  refine ops_nil ?_
  change Run _ _ _ _ [_, _, _, _, _, _, _, _, _, _, _, _, _, _, _, _, _, _, _, _, _, _, _, _, _, _, _, _, _, _, _, _, _, _, _, _, _, _, _, _, _, _, _, _, _, _, _, _, _, _, _, _, _, _, _, _, _, _, _, _, _, _, _, _, _, _, _, _, _, _, _, _, _, _, _, _, _, _, _, _, _, _, _, _, _, _, _, _, _, _, _, _, _, _, _, _] _
  refine run_seq ?_
  refine run_region ?_
  refine ops_val (ex_move rfl) ?_
  obtain ⟨u, hu⟩ : ∃ u : Nat, IntKind.u64.wrap n = (u : Int) ∧ u < 2 ^ 64 := ⟨(n % 18446744073709551616).toNat, by rw [IntKind.wrap_u64]; omega, by omega⟩
  refine ops_val (ex_conv Tryd.underlying40 Tryd.underlying3 rfl hu.1) ?_
  refine ops_val (ex_move rfl) ?_
  refine ops_val (ex_len_slice Tryd.underlying22 rfl) ?_
  change Ops _ _ _ _ _ _ [_, _, _, _, _, _, _, _, _, _, _, _, _, _, _, _, _, _, _, _, _, _, _, _, _, _, _, _, _, _, _, _, _, _, _, _, _, _, _, _, _, _, _, _, _, _, _, _, _, _, _, _, _, _, _, _, _, _, _, _, _, _, _, _, _, _, _, _, _, _, _, _, _, _, _, _, _, _, _, _, _, _, _, _, _, _, _, _, _, _, _, _, _, _, _, _] _
  refine ops_val (ex_max rfl rfl) ?_
  refine ops_val (ex_conv Tryd.underlying40 Tryd.underlying3 rfl (show _ = (((frame b).length : Nat) : Int) from by rw [show max (1 : Int) (((frame b).length : Nat) : Int) = (((frame b).length : Nat) : Int) by omega]; exact IntWalk.u64_in _ (by omega))) ?_
  refine ops_val (ex_rem rfl rfl (by omega) (tmodN u (frame b).length)) ?_
  have hkl : u % (frame b).length < (frame b).length := Nat.mod_lt _ (by omega)
  generalize u % (frame b).length = k at hkl
  refine ops_val (ex_conv Tryd.underlying3 Tryd.underlying40 rfl (IntWalk.i64_in _ (by omega))) ?_
  change Ops _ _ _ _ _ _ [_, _, _, _, _, _, _, _, _, _, _, _, _, _, _, _, _, _, _, _, _, _, _, _, _, _, _, _, _, _, _, _, _, _, _, _, _, _, _, _, _, _, _, _, _, _, _, _, _, _, _, _, _, _, _, _, _, _, _, _, _, _, _, _, _, _, _, _, _, _, _, _, _, _, _, _, _, _, _, _, _, _, _, _, _, _, _, _, _, _, _, _, _, _, _, _] _
  refine ops_val (ex_assign rfl) ?_
  refine ops_nil ?_
  change Run _ _ _ _ [_, _, _, _, _, _, _, _, _, _, _, _, _, _, _, _, _, _, _, _, _, _, _, _, _, _, _, _, _, _, _, _, _, _, _, _, _, _, _, _, _, _, _, _, _, _, _, _, _, _, _, _, _, _, _, _, _, _, _, _, _, _, _, _, _, _, _, _, _, _, _, _, _, _, _, _, _, _, _, _, _, _, _, _, _, _, _, _, _, _, _, _, _, _, _, _] _
  refine run_seq ?_
  refine run_region ?_
  refine ops_val (ex_move rfl) ?_
  refine ops_val (ex_move rfl) ?_
  refine ops_val (ex_move rfl) ?_
  refine ops_val (ex_len_slice Tryd.underlying22 rfl) ?_
  change Ops _ _ _ _ _ _ [_, _, _, _, _, _, _, _, _, _, _, _, _, _, _, _, _, _, _, _, _, _, _, _, _, _, _, _, _, _, _, _, _, _, _, _, _, _, _, _, _, _, _, _, _, _, _, _, _, _, _, _, _, _, _, _, _, _, _, _, _, _, _, _, _, _, _, _, _, _, _, _, _, _, _, _, _, _, _, _, _, _, _, _, _, _, _, _, _, _, _, _, _, _, _, _] _
  refine ops_val (ex_min rfl rfl) ?_
  rw [show min (k : Int) (((frame b).length : Nat) : Int) = (k : Int) by omega]
  refine ops_val (ex_cutHi Tryd.underlying22 ty5 rfl rfl (by omega)) ?_
  have hkt : ((frame b).take k).length = k := by rw [List.length_take]; omega
  have hk := unframe_any (hd g1) ((frame b).take k) c1 _ ((H6.rd (i := 0) (o := g1) (xs := u8s (frame b)) (sp := s1) rfl (u8s_length1 _) (by decide)).head (by omega)) (by omega) (by omega) (hT.to H6)
  rw [hkt, unf_cut b k (by omega) (by omega)] at hk
  dsimp only at hk
  refine ops_call_unf (ex_call gf8 rfl) hk ?_
  intro w7 g4 c4 s4 hm4 hc4 hg4 Hd
  have H7 := H6.call0 Hd
  refine ops_val (ex_move rfl) ?_
  change Ops _ _ _ _ _ _ [_, _, _, _, _, _, _, _, _, _, _, _, _, _, _, _, _, _, _, _, _, _, _, _, _, _, _, _, _, _, _, _, _, _, _, _, _, _, _, _, _, _, _, _, _, _, _, _, _, _, _, _, _, _, _, _, _, _, _, _, _, _, _, _, _, _, _, _, _, _, _, _, _, _, _, _, _, _, _, _, _, _, _, _, _, _, _, _, _, _, _, _, _, _, _, _] _
  refine ops_val (ex_extract rfl rfl) ?_
  refine ops_val (ex_extract rfl rfl) ?_
  refine ops_val (ex_extract rfl rfl) ?_
  refine ops_val (ex_assign rfl) ?_
  change Ops _ _ _ _ _ _ [_, _, _, _, _, _, _, _, _, _, _, _, _, _, _, _, _, _, _, _, _, _, _, _, _, _, _, _, _, _, _, _, _, _, _, _, _, _, _, _, _, _, _, _, _, _, _, _, _, _, _, _, _, _, _, _, _, _, _, _, _, _, _, _, _, _, _, _, _, _, _, _, _, _, _, _, _, _, _, _, _, _, _, _, _, _, _, _, _, _, _, _, _, _, _, _] _
  refine ops_val (ex_assign rfl) ?_
  refine ops_val (ex_assign rfl) ?_
  refine ops_nil ?_
  change Run _ _ _ _ [_, _, _, _, _, _, _, _, _, _, _, _, _, _, _, _, _, _, _, _, _, _, _, _, _, _, _, _, _, _, _, _, _, _, _, _, _, _, _, _, _, _, _, _, _, _, _, _, _, _, _, _, _, _, _, _, _, _, _, _, _, _, _, _, _, _, _, _, _, _, _, _, _, _, _, _, _, _, _, _, _, _, _, _, _, _, _, _, _, _, _, _, _, _, _, _] _
  refine run_seq ?_
  refine run_region ?_
  refine ops_val (ex_move rfl) ?_
  refine ops_val (ex_len_slice Tryd.underlying22 rfl) ?_
  refine ops_val (ex_move rfl) ?_
  refine ops_val (ex_len_slice Tryd.underlying22 rfl) ?_
  change Ops _ _ _ _ _ _ [_, _, _, _, _, _, _, _, _, _, _, _, _, _, _, _, _, _, _, _, _, _, _, _, _, _, _, _, _, _, _, _, _, _, _, _, _, _, _, _, _, _, _, _, _, _, _, _, _, _, _, _, _, _, _, _, _, _, _, _, _, _, _, _, _, _, _, _, _, _, _, _, _, _, _, _, _, _, _, _, _, _, _, _, _, _, _, _, _, _, _, _, _, _, _, _] _
  refine ops_val (ex_add rfl rfl (IntWalk.i64_in _ (by omega))) ?_
  refine ops_true (ex_eql rfl rfl) (by omega) ?_
  refine ops_val (ex_move rfl) ?_
  change Ops _ _ _ _ _ _ [_, _, _, _, _, _, _, _, _, _, _, _, _, _, _, _, _, _, _, _, _, _, _, _, _, _, _, _, _, _, _, _, _, _, _, _, _, _, _, _, _, _, _, _, _, _, _, _, _, _, _, _, _, _, _, _, _, _, _, _, _, _, _, _, _, _, _, _, _, _, _, _, _, _, _, _, _, _, _, _, _, _, _, _, _, _, _, _, _, _, _, _, _, _, _, _] _
  refine ops_yes rfl ?_
  refine ops_val (ex_move rfl) ?_
  refine ops_yes rfl ?_
  refine ops_true (ex_eql rfl rfl) (rfl) ?_
  refine ops_val (ex_pick_t rfl rfl) ?_
  refine ops_val (ex_move rfl) ?_
  change Ops _ _ _ _ _ _ [_, _, _, _, _, _, _, _, _, _, _, _, _, _, _, _, _, _, _, _, _, _, _, _, _, _, _, _, _, _, _, _, _, _, _, _, _, _, _, _, _, _, _, _, _, _, _, _, _, _, _, _, _, _, _, _, _, _, _, _, _, _, _, _, _, _, _, _, _, _, _, _, _, _, _, _, _, _, _, _, _, _, _, _, _, _, _, _, _, _, _, _, _, _, _, _] _
  refine ops_yes rfl ?_
  refine ops_val (ex_move rfl) ?_
  refine ops_yes rfl ?_
  refine ops_val (ex_move rfl) ?_
  change Ops _ _ _ _ _ _ [_, _, _, _, _, _, _, _, _, _, _, _, _, _, _, _, _, _, _, _, _, _, _, _, _, _, _, _, _, _, _, _, _, _, _, _, _, _, _, _, _, _, _, _, _, _, _, _, _, _, _, _, _, _, _, _, _, _, _, _, _, _, _, _, _, _, _, _, _, _, _, _, _, _, _, _, _, _, _, _, _, _, _, _, _, _, _, _, _, _, _, _, _, _, _, _] _
  refine ops_yes rfl ?_
  refine ops_val (ex_len_slice Tryd.underlying22 rfl) ?_
  refine ops_yes rfl ?_
  refine ops_true (ex_eql rfl rfl) (by omega) ?_
  refine ops_val (ex_pick_t rfl rfl) ?_
  refine ops_val (ex_move rfl) ?_
  change Ops _ _ _ _ _ _ [_, _, _, _, _, _, _, _, _, _, _, _, _, _, _, _, _, _, _, _, _, _, _, _, _, _, _, _, _, _, _, _, _, _, _, _, _, _, _, _, _, _, _, _, _, _, _, _, _, _, _, _, _, _, _, _, _, _, _, _, _, _, _, _, _, _, _, _, _, _, _, _, _, _, _, _, _, _, _, _, _, _, _, _, _, _, _, _, _, _, _, _, _, _, _, _] _
  refine ops_yes rfl ?_
  refine ops_val (ex_move rfl) ?_
  refine ops_yes rfl ?_
  refine ops_val (ex_move rfl) ?_
  change Ops _ _ _ _ _ _ [_, _, _, _, _, _, _, _, _, _, _, _, _, _, _, _, _, _, _, _, _, _, _, _, _, _, _, _, _, _, _, _, _, _, _, _, _, _, _, _, _, _, _, _, _, _, _, _, _, _, _, _, _, _, _, _, _, _, _, _, _, _, _, _, _, _, _, _, _, _, _, _, _, _, _, _, _, _, _, _, _, _, _, _, _, _, _, _, _, _, _, _, _, _, _, _] _
  refine ops_yes rfl ?_
  have hk := bytes_any (hd g3) A b b c3 c _ (H7.rd (i := 2) (xs := u8s (b)) rfl (u8s_length1 _) (by decide)) (hr.to0 H7) (by omega) (by omega)
  rw [decide_eq_true rfl] at hk
  refine ops_call_val (ex_call gf11 rfl) hk ?_
  intro w8 Hd
  have H8 := H7.call0 Hd
  refine ops_val (ex_pick_t rfl rfl) ?_
  refine ops_val (ex_move rfl) ?_
  change Ops _ _ _ _ _ _ [_, _, _, _, _, _, _, _, _, _, _, _, _, _, _, _, _, _, _, _, _, _, _, _, _, _, _, _, _, _, _, _, _, _, _, _, _, _, _, _, _, _, _, _, _, _, _, _, _, _, _, _, _, _, _, _, _, _, _, _, _, _, _, _, _, _, _, _, _, _, _, _, _, _, _, _, _, _, _, _, _, _, _, _, _, _, _, _, _, _, _, _, _, _, _, _] _
  refine ops_yes rfl ?_
  refine ops_val (ex_move rfl) ?_
  refine ops_yes rfl ?_
  refine ops_true (ex_eql rfl rfl) (rfl) ?_
  refine ops_val (ex_pick_t rfl rfl) ?_
  refine ops_val (ex_move rfl) ?_
  change Ops _ _ _ _ _ _ [_, _, _, _, _, _, _, _, _, _, _, _, _, _, _, _, _, _, _, _, _, _, _, _, _, _, _, _, _, _, _, _, _, _, _, _, _, _, _, _, _, _, _, _, _, _, _, _, _, _, _, _, _, _, _, _, _, _, _, _, _, _, _, _, _, _, _, _, _, _, _, _, _, _, _, _, _, _, _, _, _, _, _, _, _, _, _, _, _, _, _, _, _, _, _, _] _
  refine ops_yes rfl ?_
  refine ops_val (ex_move rfl) ?_
  refine ops_yes rfl ?_
  refine ops_true (ex_eql rfl rfl) (rfl) ?_
  refine ops_val (ex_pick_t rfl rfl) ?_
  refine ops_val (ex_move rfl) ?_
  change Ops _ _ _ _ _ _ [_, _, _, _, _, _, _, _, _, _, _, _, _, _, _, _, _, _, _, _, _, _, _, _, _, _, _, _, _, _, _, _, _, _, _, _, _, _, _, _, _, _, _, _, _, _, _, _, _, _, _, _, _, _, _, _, _, _, _, _, _, _, _, _, _, _, _, _, _, _, _, _, _, _, _, _, _, _, _, _, _, _, _, _, _, _, _, _, _, _, _, _, _, _, _, _] _
  refine ops_yes rfl ?_
  refine ops_val (ex_move rfl) ?_
  refine ops_yes rfl ?_
  refine ops_val (ex_len_slice Tryd.underlying22 rfl) ?_
  change Ops _ _ _ _ _ _ [_, _, _, _, _, _, _, _, _, _, _, _, _, _, _, _, _, _, _, _, _, _, _, _, _, _, _, _, _, _, _, _, _, _, _, _, _, _, _, _, _, _, _, _, _, _, _, _, _, _, _, _, _, _, _, _, _, _, _, _, _, _, _, _, _, _, _, _, _, _, _, _, _, _, _, _, _, _, _, _, _, _, _, _, _, _, _, _, _, _, _, _, _, _, _, _] _
  refine ops_yes rfl ?_
  refine ops_true (ex_eql rfl rfl) (rfl) ?_
  refine ops_val (ex_pick_t rfl rfl) ?_
  refine ops_val (ex_assign rfl) ?_
  refine ops_nil ?_
  change Run _ _ _ _ [_, _, _, _, _, _, _, _, _, _, _, _, _, _, _, _, _, _, _, _, _, _, _, _, _, _, _, _, _, _, _, _, _, _, _, _, _, _, _, _, _, _, _, _, _, _, _, _, _, _, _, _, _, _, _, _, _, _, _, _, _, _, _, _, _, _, _, _, _, _, _, _, _, _, _, _, _, _, _, _, _, _, _, _, _, _, _, _, _, _, _, _, _, _, _, _] _
  refine run_ret ?_
  refine fin_ret1 rfl rfl ?_
  exact ⟨rfl, H8.pick [] (by decide)⟩
end Go.Proofs.YtlglenbmpikhmaaDoor
