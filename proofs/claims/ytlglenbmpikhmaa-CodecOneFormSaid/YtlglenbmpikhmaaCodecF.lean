/- Walks of layer 2, printed by wip/gen/codec.py. -/
import Derived.Test.YtlglenbmpikhmaaCodecD
import Derived.Test.YtlglenbmpikhmaaCodecLaw
namespace Go.Proofs.Ytlglenbmpikhmaa
open Go Go.RowKit
set_option linter.unusedVariables false
attribute [local irreducible] Still Ops Does Cd
theorem one_text {b x : List UInt8} {j f : Nat} (h : textStep b b.length 0 0 = (x, j, f)) (hf : f = 0) : b.take j = encText x := by
  have e : textOf b b.length = (x, j, f) := by simpa [textStep, Prod.ext_iff] using h
  have := @textOf_one b b.length (by rw [e]; exact hf)
  rw [e] at this
  exact this
set_option maxRecDepth 100000 in
set_option maxHeartbeats 4000000 in
theorem oneForm_any (A : Option Addr) (b : List UInt8) (c : Nat) (w0 : World) (hr : Rd w0 A b.length 1 (u8s b)) (hb : b.length ≤ 140737488351232) (hc : b.length ≤ c) :
    Does Try.prog 3 #[.slice A b.length c] w0 (fun r w' => r = .bool true ∧ Hp w0 w' [] []) := by
  refine does_of Try.func3 Try.ntmps3 rfl ?_
  change Run _ _ _ _ [.slice A b.length c, undef, undef, undef, undef, undef, undef, undef, undef, undef, undef, undef, undef, undef, undef, undef, undef, undef, undef, undef, undef, undef, undef, undef, undef, undef, undef, undef, undef, undef, undef, undef, undef, undef, undef, undef, undef, undef, undef, undef, undef, undef, undef, undef, undef, undef, undef, undef, undef, undef, undef, undef, undef, undef, undef, undef, undef, undef, undef, undef, undef, undef, undef, undef, undef, undef, undef, undef, undef, undef, undef, undef, undef, undef, undef, undef, undef, undef, undef, undef, undef, undef, undef, undef, undef, undef, undef, undef, undef, undef, undef, undef, undef, undef, undef, undef, undef, undef, undef, undef, undef, undef, undef, undef] _
  have H := (Hp.refl w0)
  obtain ⟨v, i, e, x, j, f, e1, e2, hv, hi, hj, hx, hN, hT, hu1, hu2, hu3⟩ := one_plain b (by omega)
  clear hT
  refine run_seq ?_
  refine run_region ?_
  refine ops_val (ex_assign rfl) ?_
  refine ops_nil ?_
  change Run _ _ _ _ [_, _, _, _, _, _, _, _, _, _, _, _, _, _, _, _, _, _, _, _, _, _, _, _, _, _, _, _, _, _, _, _, _, _, _, _, _, _, _, _, _, _, _, _, _, _, _, _, _, _, _, _, _, _, _, _, _, _, _, _, _, _, _, _, _, _, _, _, _, _, _, _, _, _, _, _, _, _, _, _, _, _, _, _, _, _, _, _, _, _, _, _, _, _, _, _, _, _, _, _, _, _, _, _] _
  refine run_seq ?_
  refine run_region ?_
  refine ops_val (ex_move rfl) ?_
  refine ops_new (ex_call gf8 rfl) (new_any _ b _ _ (hr.to0 H) (by omega)) ?_
  intro w1 gr1 g1 cp1 sp1 hn1 hm1 hz1 Hc
  have H1 := H.call0 Hc
  refine ops_val (ex_move rfl) ?_
  refine ops_new (ex_call gf8 rfl) (new_any _ b _ _ (hr.to0 H1) (by omega)) ?_
  intro w2 gr2 g2 cp2 sp2 hn2 hm2 hz2 Hc
  have H2 := H1.call0 Hc
  change Ops _ _ _ _ _ _ [_, _, _, _, _, _, _, _, _, _, _, _, _, _, _, _, _, _, _, _, _, _, _, _, _, _, _, _, _, _, _, _, _, _, _, _, _, _, _, _, _, _, _, _, _, _, _, _, _, _, _, _, _, _, _, _, _, _, _, _, _, _, _, _, _, _, _, _, _, _, _, _, _, _, _, _, _, _, _, _, _, _, _, _, _, _, _, _, _, _, _, _, _, _, _, _, _, _, _, _, _, _, _, _] _
  refine ops_val (ex_move rfl) ?_
  refine ops_new (ex_call gf8 rfl) (new_any _ b _ _ (hr.to0 H2) (by omega)) ?_
  intro w3 gr3 g3 cp3 sp3 hn3 hm3 hz3 Hc
  have H3 := H2.call0 Hc 
  have hR1 := rdr_of H3 (j := 0) (k := 1) rfl rfl (by decide) hn1 (by omega) (Nat.zero_le _)
  have hR2 := rdr_of H3 (j := 2) (k := 3) rfl rfl (by decide) hn2 (by omega) (Nat.zero_le _)
  have hR3 := rdr_of H3 (j := 4) (k := 5) rfl rfl (by decide) hn3 (by omega) (Nat.zero_le _)
  have n12 := H3.ne (i := 0) (j := 2) rfl rfl (by decide)
  have m12 := H3.neh (i := 1) (j := 2) rfl rfl (by decide)
  have n13 := H3.ne (i := 0) (j := 4) rfl rfl (by decide)
  have m13 := H3.neh (i := 1) (j := 4) rfl rfl (by decide)
  have n21 := H3.ne (i := 2) (j := 0) rfl rfl (by decide)
  have m21 := H3.neh (i := 3) (j := 0) rfl rfl (by decide)
  have n23 := H3.ne (i := 2) (j := 4) rfl rfl (by decide)
  have m23 := H3.neh (i := 3) (j := 4) rfl rfl (by decide)
  have n31 := H3.ne (i := 4) (j := 0) rfl rfl (by decide)
  have m31 := H3.neh (i := 5) (j := 0) rfl rfl (by decide)
  have n32 := H3.ne (i := 4) (j := 2) rfl rfl (by decide)
  have m32 := H3.neh (i := 5) (j := 2) rfl rfl (by decide)
  replace H3 := H3.pick [0, 2, 4] (by decide)
  refine ops_val (ex_assign rfl) ?_
  refine ops_val (ex_assign rfl) ?_
  change Ops _ _ _ _ _ _ [_, _, _, _, _, _, _, _, _, _, _, _, _, _, _, _, _, _, _, _, _, _, _, _, _, _, _, _, _, _, _, _, _, _, _, _, _, _, _, _, _, _, _, _, _, _, _, _, _, _, _, _, _, _, _, _, _, _, _, _, _, _, _, _, _, _, _, _, _, _, _, _, _, _, _, _, _, _, _, _, _, _, _, _, _, _, _, _, _, _, _, _, _, _, _, _, _, _, _, _, _, _, _, _] _
  refine ops_val (ex_assign rfl) ?_
  refine ops_nil ?_
  change Run _ _ _ _ [_, _, _, _, _, _, _, _, _, _, _, _, _, _, _, _, _, _, _, _, _, _, _, _, _, _, _, _, _, _, _, _, _, _, _, _, _, _, _, _, _, _, _, _, _, _, _, _, _, _, _, _, _, _, _, _, _, _, _, _, _, _, _, _, _, _, _, _, _, _, _, _, _, _, _, _, _, _, _, _, _, _, _, _, _, _, _, _, _, _, _, _, _, _, _, _, _, _, _, _, _, _, _, _] _
  refine run_seq ?_
  refine run_seq ?_
  refine run_region ?_
  refine ops_call_val (ex_call gf9 rfl) (awake_any _) ?_
  intro w4 Hd
  have H4 := H3.call0 Hd
  replace hR1 := hR1.to0 Hd
  replace hR2 := hR2.to0 Hd
  replace hR3 := hR3.to0 Hd
  refine ops_val (ex_not rfl) ?_
  refine ops_val (ex_move rfl) ?_
  change Ops _ _ _ _ _ _ [_, _, _, _, _, _, _, _, _, _, _, _, _, _, _, _, _, _, _, _, _, _, _, _, _, _, _, _, _, _, _, _, _, _, _, _, _, _, _, _, _, _, _, _, _, _, _, _, _, _, _, _, _, _, _, _, _, _, _, _, _, _, _, _, _, _, _, _, _, _, _, _, _, _, _, _, _, _, _, _, _, _, _, _, _, _, _, _, _, _, _, _, _, _, _, _, _, _, _, _, _, _, _, _] _
  refine ops_yes rfl ?_
  refine ops_val (ex_move rfl) ?_
  refine ops_yes rfl ?_
  refine ops_false (ex_eql_nil_ptr Try.underlying23 rfl) (by simp) ?_
  refine ops_val (ex_pick_f rfl rfl) ?_
  refine ops_val (ex_move rfl) ?_
  change Ops _ _ _ _ _ _ [_, _, _, _, _, _, _, _, _, _, _, _, _, _, _, _, _, _, _, _, _, _, _, _, _, _, _, _, _, _, _, _, _, _, _, _, _, _, _, _, _, _, _, _, _, _, _, _, _, _, _, _, _, _, _, _, _, _, _, _, _, _, _, _, _, _, _, _, _, _, _, _, _, _, _, _, _, _, _, _, _, _, _, _, _, _, _, _, _, _, _, _, _, _, _, _, _, _, _, _, _, _, _, _] _
  refine ops_yes rfl ?_
  refine ops_val (ex_move rfl) ?_
  refine ops_yes rfl ?_
  refine ops_false (ex_eql_nil_ptr Try.underlying23 rfl) (by simp) ?_
  refine ops_val (ex_pick_f rfl rfl) ?_
  refine ops_val (ex_move rfl) ?_
  change Ops _ _ _ _ _ _ [_, _, _, _, _, _, _, _, _, _, _, _, _, _, _, _, _, _, _, _, _, _, _, _, _, _, _, _, _, _, _, _, _, _, _, _, _, _, _, _, _, _, _, _, _, _, _, _, _, _, _, _, _, _, _, _, _, _, _, _, _, _, _, _, _, _, _, _, _, _, _, _, _, _, _, _, _, _, _, _, _, _, _, _, _, _, _, _, _, _, _, _, _, _, _, _, _, _, _, _, _, _, _, _] _
  refine ops_yes rfl ?_
  refine ops_val (ex_move rfl) ?_
  refine ops_yes rfl ?_
  refine ops_false (ex_eql_nil_ptr Try.underlying23 rfl) (by simp) ?_
  refine ops_val (ex_pick_f rfl rfl) ?_
  refine ops_nil ?_
  change Run _ _ _ _ [_, _, _, _, _, _, _, _, _, _, _, _, _, _, _, _, _, _, _, _, _, _, _, _, _, _, _, _, _, _, _, _, _, _, _, _, _, _, _, _, _, _, _, _, _, _, _, _, _, _, _, _, _, _, _, _, _, _, _, _, _, _, _, _, _, _, _, _, _, _, _, _, _, _, _, _, _, _, _, _, _, _, _, _, _, _, _, _, _, _, _, _, _, _, _, _, _, _, _, _, _, _, _, _] _
  refine run_cond_false rfl ?_
  refine run_skip ?_
  refine run_seq ?_
  refine run_region ?_
  refine ops_val (ex_move rfl) ?_
  have hk := num_rd gr1 _ _ b 0 0 _ hR1
  rw [e1] at hk
  refine ops_call_val (ex_call gf10 rfl) hk ?_
  intro w5 Hd
  have H5 := (H4.call1 (i := 0) rfl Hd).pick [3, 1, 2] (by decide)
  replace hR1 := hR1.next (Hd.pick [0] (by decide)) hi
  replace hR2 := hR2.past Hd n21 m21
  replace hR3 := hR3.past Hd n31 m31
  refine ops_val (ex_move rfl) ?_
  have hk := int_rd gr2 _ _ b 0 0 _ hR2
  rw [e1] at hk
  refine ops_call_val (ex_call gf11 rfl) hk ?_
  intro w6 Hd
  have H6 := (H5.call1 (i := 1) rfl Hd).pick [0, 3, 2] (by decide)
  replace hR2 := hR2.next (Hd.pick [0] (by decide)) hi
  replace hR1 := hR1.past Hd n12 m12
  replace hR3 := hR3.past Hd n32 m32
  change Ops _ _ _ _ _ _ [_, _, _, _, _, _, _, _, _, _, _, _, _, _, _, _, _, _, _, _, _, _, _, _, _, _, _, _, _, _, _, _, _, _, _, _, _, _, _, _, _, _, _, _, _, _, _, _, _, _, _, _, _, _, _, _, _, _, _, _, _, _, _, _, _, _, _, _, _, _, _, _, _, _, _, _, _, _, _, _, _, _, _, _, _, _, _, _, _, _, _, _, _, _, _, _, _, _, _, _, _, _, _, _] _
  refine ops_val (ex_move rfl) ?_
  refine ops_val (ex_move rfl) ?_
  refine ops_val (ex_len_slice Try.underlying22 rfl) ?_
  have hk := text_rd gr3 _ _ b 0 0 _ hR3 b.length (by omega) (by omega)
  rw [e2] at hk
  refine ops_call_slice (ex_call gf12 rfl) hk ?_
  intro w7 gt ct st ⟨ht1, ht2, ht3, Hd⟩
  have H7 := (H6.call1 (i := 2) rfl Hd).pick [0, 1, 3, 4] (by decide)
  replace hR3 := hR3.next (Hd.pick [0] (by decide)) hj
  replace hR1 := hR1.past Hd n13 m13
  replace hR2 := hR2.past Hd n23 m23
  change Ops _ _ _ _ _ _ [_, _, _, _, _, _, _, _, _, _, _, _, _, _, _, _, _, _, _, _, _, _, _, _, _, _, _, _, _, _, _, _, _, _, _, _, _, _, _, _, _, _, _, _, _, _, _, _, _, _, _, _, _, _, _, _, _, _, _, _, _, _, _, _, _, _, _, _, _, _, _, _, _, _, _, _, _, _, _, _, _, _, _, _, _, _, _, _, _, _, _, _, _, _, _, _, _, _, _, _, _, _, _, _] _
  refine ops_val (ex_assign rfl) ?_
  refine ops_val (ex_assign rfl) ?_
  refine ops_val (ex_assign rfl) ?_
  refine ops_nil ?_
  change Run _ _ _ _ [_, _, _, _, _, _, _, _, _, _, _, _, _, _, _, _, _, _, _, _, _, _, _, _, _, _, _, _, _, _, _, _, _, _, _, _, _, _, _, _, _, _, _, _, _, _, _, _, _, _, _, _, _, _, _, _, _, _, _, _, _, _, _, _, _, _, _, _, _, _, _, _, _, _, _, _, _, _, _, _, _, _, _, _, _, _, _, _, _, _, _, _, _, _, _, _, _, _, _, _, _, _, _, _] _
  refine run_seq ?_
  refine run_region ?_
  refine ops_val (ex_move rfl) ?_
  refine ops_call_val (ex_call gf13 rfl) (fault_rd gr1 _ _ b i e _ hR1) ?_
  intro w8 Hd
  have H8 := H7.call0 Hd
  replace hR1 := hR1.to0 Hd
  replace hR2 := hR2.to0 Hd
  replace hR3 := hR3.to0 Hd
  refine ops_val (ex_move rfl) ?_
  refine ops_val (ex_extract rfl rfl) ?_
  change Ops _ _ _ _ _ _ [_, _, _, _, _, _, _, _, _, _, _, _, _, _, _, _, _, _, _, _, _, _, _, _, _, _, _, _, _, _, _, _, _, _, _, _, _, _, _, _, _, _, _, _, _, _, _, _, _, _, _, _, _, _, _, _, _, _, _, _, _, _, _, _, _, _, _, _, _, _, _, _, _, _, _, _, _, _, _, _, _, _, _, _, _, _, _, _, _, _, _, _, _, _, _, _, _, _, _, _, _, _, _, _] _
  refine ops_val (ex_extract rfl rfl) ?_
  refine ops_val (ex_assign rfl) ?_
  refine ops_val (ex_assign rfl) ?_
  refine ops_nil ?_
  change Run _ _ _ _ [_, _, _, _, _, _, _, _, _, _, _, _, _, _, _, _, _, _, _, _, _, _, _, _, _, _, _, _, _, _, _, _, _, _, _, _, _, _, _, _, _, _, _, _, _, _, _, _, _, _, _, _, _, _, _, _, _, _, _, _, _, _, _, _, _, _, _, _, _, _, _, _, _, _, _, _, _, _, _, _, _, _, _, _, _, _, _, _, _, _, _, _, _, _, _, _, _, _, _, _, _, _, _, _] _
  refine run_seq ?_
  refine run_seq ?_
  refine run_region ?_
  refine ops_val (ex_move rfl) ?_
  refine ops_test (ex_eql rfl rfl) (fun hp48 => ?_) (fun hp48 => ?_)
  · obtain ⟨hi1, hi2, hi3⟩ := hN (by have := hp48; omega)
    have hi4 : (b.take i).length = i := by rw [List.length_take]; omega
    have hl1 := enc_len64 hv
    refine ops_nil ?_
    change Run _ _ _ _ [_, _, _, _, _, _, _, _, _, _, _, _, _, _, _, _, _, _, _, _, _, _, _, _, _, _, _, _, _, _, _, _, _, _, _, _, _, _, _, _, _, _, _, _, _, _, _, _, _, _, _, _, _, _, _, _, _, _, _, _, _, _, _, _, _, _, _, _, _, _, _, _, _, _, _, _, _, _, _, _, _, _, _, _, _, _, _, _, _, _, _, _, _, _, _, _, _, _, _, _, _, _, _, _] _
    refine run_cond_true rfl ?_
    refine run_seq ?_
    refine run_region ?_
    refine ops_val (ex_move rfl) ?_
    refine ops_val (ex_len_slice Try.underlying22 rfl) ?_
    refine ops_val (ex_move rfl) ?_
    refine ops_call_val (ex_call gf14 rfl) (left_rd gr1 _ _ b i e _ hR1) ?_
    intro w9 Hd
    have H9 := H8.call0 Hd
    replace hR1 := hR1.to0 Hd
    replace hR2 := hR2.to0 Hd
    replace hR3 := hR3.to0 Hd
    change Ops _ _ _ _ _ _ [_, _, _, _, _, _, _, _, _, _, _, _, _, _, _, _, _, _, _, _, _, _, _, _, _, _, _, _, _, _, _, _, _, _, _, _, _, _, _, _, _, _, _, _, _, _, _, _, _, _, _, _, _, _, _, _, _, _, _, _, _, _, _, _, _, _, _, _, _, _, _, _, _, _, _, _, _, _, _, _, _, _, _, _, _, _, _, _, _, _, _, _, _, _, _, _, _, _, _, _, _, _, _, _] _
    refine ops_val (ex_sub rfl rfl (show IntKind.i64.wrap ((b.length : Int) - ((b.length - i : Nat) : Int)) = (i : Int) from by rw [IntKind.wrap_i64]; omega)) ?_
    refine ops_val (ex_assign rfl) ?_
    refine ops_nil ?_
    change Run _ _ _ _ [_, _, _, _, _, _, _, _, _, _, _, _, _, _, _, _, _, _, _, _, _, _, _, _, _, _, _, _, _, _, _, _, _, _, _, _, _, _, _, _, _, _, _, _, _, _, _, _, _, _, _, _, _, _, _, _, _, _, _, _, _, _, _, _, _, _, _, _, _, _, _, _, _, _, _, _, _, _, _, _, _, _, _, _, _, _, _, _, _, _, _, _, _, _, _, _, _, _, _, _, _, _, _, _] _
    refine run_seq ?_
    refine run_mix [(true, 0), (true, 1), (true, 2), (true, 3), (true, 4), (true, 5), (true, 6), (true, 7), (true, 9), (true, 10), (true, 11), (false, 8), (false, 12), (true, 13), (true, 14), (true, 15), (true, 16), (true, 18), (true, 19), (true, 20), (false, 17), (false, 21), (true, 22), (true, 23), (true, 24), (true, 25), (true, 27), (false, 26), (false, 28), (true, 29), (true, 30)] mixed (by kernel_rfl) ?_
    rintro w10 hw10
    have H10 := Hp.drew H9; rw [← hw10] at H10
    have hD := (Hp.refl w9).drew
    rw [← hw10] at hD
    replace hR1 := hR1.to0 hD
    replace hR2 := hR2.to0 hD
    replace hR3 := hR3.to0 hD
    refine mix_p rfl ?_
    refine mix1_val (fun _ => ex_move rfl) ?_
    refine mix_p rfl ?_
    refine mix1_false (fun _ => ex_lss rfl rfl) (by omega) ?_
    refine mix_p rfl ?_
    refine mix1_val (fun _ => ex_move rfl) ?_
    refine mix_p rfl ?_
    refine mix1_yes rfl ?_
    refine mix1_val (fun _ => ex_move rfl) ?_
    refine mix_p rfl ?_
    refine mix1_yes rfl ?_
    refine mix1_false (fun _ => ex_gtr rfl rfl) (by omega) ?_
    refine mix_p rfl ?_
    refine mix1_val (fun _ => ex_pick_f rfl rfl) ?_
    refine mix_p rfl ?_
    refine mix1_val (fun _ => ex_move rfl) ?_
    change Mixes _ _ _ _ _ [_, _, _, _, _, _, _, _, _, _, _, _, _, _, _, _, _, _, _, _, _, _, _, _, _, _, _, _, _, _, _, _, _, _, _, _, _, _, _, _, _, _, _, _, _, _, _, _, _, _, _, _, _, _, _, _, _, _, _, _, _, _, _, _, _, _, _, _, _, _, _, _, _, _, _, _, _, _, _, _, _, _, _, _, _, _, _, _, _, _, _, _, _, _, _, _, _, _, _, _, _, _, _, _] _
    refine mix_p rfl ?_
    refine mix1_yes rfl ?_
    refine mix1_val (fun _ => ex_move rfl) ?_
    refine mix_p rfl ?_
    refine mix1_yes rfl ?_
    refine mix1_val (fun _ => ex_move rfl) ?_
    refine mix_p rfl ?_
    refine mix1_yes rfl ?_
    refine mix1_val (fun _ => ex_move rfl) ?_
    refine mix_p rfl ?_
    refine mix1_yes rfl ?_
    refine mix1_val (fun _ => ex_cutHi Try.underlying22 ty5 rfl rfl (by omega)) ?_
    refine mix_o rfl ?_
    refine ops_yes rfl ?_
    refine ops_call_own (ex_call gf16 rfl) (num_any v _ hv) ?_
    intro w11 go1 co1 so1 hmo1 hco1 hgo1 Hd
    have H11 := H10.call0 Hd
    replace hR1 := hR1.to0 Hd
    replace hR2 := hR2.to0 Hd
    replace hR3 := hR3.to0 Hd
    refine ops_nil ?_
    change Mixes _ _ _ _ _ [_, _, _, _, _, _, _, _, _, _, _, _, _, _, _, _, _, _, _, _, _, _, _, _, _, _, _, _, _, _, _, _, _, _, _, _, _, _, _, _, _, _, _, _, _, _, _, _, _, _, _, _, _, _, _, _, _, _, _, _, _, _, _, _, _, _, _, _, _, _, _, _, _, _, _, _, _, _, _, _, _, _, _, _, _, _, _, _, _, _, _, _, _, _, _, _, _, _, _, _, _, _, _, _] _
    refine mix_o rfl ?_
    refine ops_yes rfl ?_
    have hk := bytes_any _ A (enc v) (b.take i) co1 c _ (H11.rd (i := 4) (o := go1) (xs := u8s (enc v)) (sp := so1) rfl (u8s_length1 _) (by decide)) ((hr.to0 H11).head hi) (by omega) (by omega)
    rw [hi4, decide_eq_true hi3.symm] at hk
    refine ops_call_val (ex_call gf15 rfl) hk ?_
    intro w12 Hd
    have H12 := H11.call0 Hd
    replace hR1 := hR1.to0 Hd
    replace hR2 := hR2.to0 Hd
    replace hR3 := hR3.to0 Hd
    refine ops_nil ?_
    change Mixes _ _ _ _ _ [_, _, _, _, _, _, _, _, _, _, _, _, _, _, _, _, _, _, _, _, _, _, _, _, _, _, _, _, _, _, _, _, _, _, _, _, _, _, _, _, _, _, _, _, _, _, _, _, _, _, _, _, _, _, _, _, _, _, _, _, _, _, _, _, _, _, _, _, _, _, _, _, _, _, _, _, _, _, _, _, _, _, _, _, _, _, _, _, _, _, _, _, _, _, _, _, _, _, _, _, _, _, _, _] _
    refine mix_p rfl ?_
    refine mix1_yes rfl ?_
    refine mix1_val (fun _ => ex_not rfl) ?_
    refine mix_p rfl ?_
    refine mix1_val (fun _ => ex_pick_f rfl rfl) ?_
    refine mix_p rfl ?_
    refine mix1_val (fun _ => ex_move rfl) ?_
    refine mix_p rfl ?_
    refine mix1_yes rfl ?_
    refine mix1_val (fun _ => ex_move rfl) ?_
    refine mix_p rfl ?_
    refine mix1_yes rfl ?_
    refine mix1_val (fun _ => ex_move rfl) ?_
    refine mix_p rfl ?_
    refine mix1_yes rfl ?_
    refine mix1_val (fun _ => ex_move rfl) ?_
    refine mix_p rfl ?_
    refine mix1_yes rfl ?_
    refine mix1_val (fun _ => ex_cutHi Try.underlying22 ty5 rfl rfl (by omega)) ?_
    refine mix_o rfl ?_
    refine ops_yes rfl ?_
    refine ops_call_own (ex_call gf17 rfl) (int_any (unz v) _ hu1 hu2) ?_
    intro w13 go2 co2 so2 hmo2 hco2 hgo2 Hd
    have H13 := H12.call0 Hd
    replace hR1 := hR1.to0 Hd
    replace hR2 := hR2.to0 Hd
    replace hR3 := hR3.to0 Hd
    refine ops_nil ?_
    change Mixes _ _ _ _ _ [_, _, _, _, _, _, _, _, _, _, _, _, _, _, _, _, _, _, _, _, _, _, _, _, _, _, _, _, _, _, _, _, _, _, _, _, _, _, _, _, _, _, _, _, _, _, _, _, _, _, _, _, _, _, _, _, _, _, _, _, _, _, _, _, _, _, _, _, _, _, _, _, _, _, _, _, _, _, _, _, _, _, _, _, _, _, _, _, _, _, _, _, _, _, _, _, _, _, _, _, _, _, _, _] _
    refine mix_o rfl ?_
    refine ops_yes rfl ?_
    have hk := bytes_any _ A (encInt (unz v)) (b.take i) co2 c _ (H13.rd (i := 5) (o := go2) (xs := u8s (encInt (unz v))) (sp := so2) rfl (u8s_length1 _) (by decide)) ((hr.to0 H13).head hi) (by rw [hu3]; omega) (by omega)
    rw [hi4, decide_eq_true (hu3.trans hi3.symm)] at hk
    refine ops_call_val (ex_call gf15 rfl) hk ?_
    intro w14 Hd
    have H14 := H13.call0 Hd
    replace hR1 := hR1.to0 Hd
    replace hR2 := hR2.to0 Hd
    replace hR3 := hR3.to0 Hd
    refine ops_nil ?_
    change Mixes _ _ _ _ _ [_, _, _, _, _, _, _, _, _, _, _, _, _, _, _, _, _, _, _, _, _, _, _, _, _, _, _, _, _, _, _, _, _, _, _, _, _, _, _, _, _, _, _, _, _, _, _, _, _, _, _, _, _, _, _, _, _, _, _, _, _, _, _, _, _, _, _, _, _, _, _, _, _, _, _, _, _, _, _, _, _, _, _, _, _, _, _, _, _, _, _, _, _, _, _, _, _, _, _, _, _, _, _, _] _
    refine mix_p rfl ?_
    refine mix1_yes rfl ?_
    refine mix1_val (fun _ => ex_not rfl) ?_
    refine mix_p rfl ?_
    refine mix1_val (fun _ => ex_pick_f rfl rfl) ?_
    refine mix_p rfl ?_
    refine mix1_val (fun _ => ex_move rfl) ?_
    refine mix_p rfl ?_
    refine mix1_yes rfl ?_
    refine mix1_val (fun _ => ex_move rfl) ?_
    refine mix_p rfl ?_
    refine mix1_yes rfl ?_
    refine mix1_val (fun _ => ex_move rfl) ?_
    refine mix_o rfl ?_
    refine ops_yes rfl ?_
    refine ops_call_val (ex_call gf14 rfl) (left_rd gr2 _ _ b i e _ hR2) ?_
    intro w15 Hd
    have H15 := H14.call0 Hd
    replace hR1 := hR1.to0 Hd
    replace hR2 := hR2.to0 Hd
    replace hR3 := hR3.to0 Hd
    refine ops_nil ?_
    change Mixes _ _ _ _ _ [_, _, _, _, _, _, _, _, _, _, _, _, _, _, _, _, _, _, _, _, _, _, _, _, _, _, _, _, _, _, _, _, _, _, _, _, _, _, _, _, _, _, _, _, _, _, _, _, _, _, _, _, _, _, _, _, _, _, _, _, _, _, _, _, _, _, _, _, _, _, _, _, _, _, _, _, _, _, _, _, _, _, _, _, _, _, _, _, _, _, _, _, _, _, _, _, _, _, _, _, _, _, _, _] _
    refine mix_o rfl ?_
    refine ops_yes rfl ?_
    refine ops_call_val (ex_call gf14 rfl) (left_rd gr1 _ _ b i e _ hR1) ?_
    intro w16 Hd
    have H16 := H15.call0 Hd
    replace hR1 := hR1.to0 Hd
    replace hR2 := hR2.to0 Hd
    replace hR3 := hR3.to0 Hd
    refine ops_nil ?_
    change Mixes _ _ _ _ _ [_, _, _, _, _, _, _, _, _, _, _, _, _, _, _, _, _, _, _, _, _, _, _, _, _, _, _, _, _, _, _, _, _, _, _, _, _, _, _, _, _, _, _, _, _, _, _, _, _, _, _, _, _, _, _, _, _, _, _, _, _, _, _, _, _, _, _, _, _, _, _, _, _, _, _, _, _, _, _, _, _, _, _, _, _, _, _, _, _, _, _, _, _, _, _, _, _, _, _, _, _, _, _, _] _
    refine mix_p rfl ?_
    refine mix1_yes rfl ?_
    refine mix1_false (fun _ => ex_neq rfl rfl) (by simp) ?_
    refine mix_p rfl ?_
    refine mix1_val (fun _ => ex_pick_f rfl rfl) ?_
    refine mix_nil ?_
    change Run _ _ _ _ [_, _, _, _, _, _, _, _, _, _, _, _, _, _, _, _, _, _, _, _, _, _, _, _, _, _, _, _, _, _, _, _, _, _, _, _, _, _, _, _, _, _, _, _, _, _, _, _, _, _, _, _, _, _, _, _, _, _, _, _, _, _, _, _, _, _, _, _, _, _, _, _, _, _, _, _, _, _, _, _, _, _, _, _, _, _, _, _, _, _, _, _, _, _, _, _, _, _, _, _, _, _, _, _] _
    refine run_cond_false rfl ?_
    refine run_skip ?_
    refine run_seq ?_
    refine run_region ?_
    refine ops_val (ex_move rfl) ?_
    refine ops_call_val (ex_call gf13 rfl) (fault_rd gr3 _ _ b j f _ hR3) ?_
    intro w17 Hd
    have H17 := H16.call0 Hd
    replace hR1 := hR1.to0 Hd
    replace hR2 := hR2.to0 Hd
    replace hR3 := hR3.to0 Hd
    refine ops_val (ex_move rfl) ?_
    refine ops_val (ex_extract rfl rfl) ?_
    change Ops _ _ _ _ _ _ [_, _, _, _, _, _, _, _, _, _, _, _, _, _, _, _, _, _, _, _, _, _, _, _, _, _, _, _, _, _, _, _, _, _, _, _, _, _, _, _, _, _, _, _, _, _, _, _, _, _, _, _, _, _, _, _, _, _, _, _, _, _, _, _, _, _, _, _, _, _, _, _, _, _, _, _, _, _, _, _, _, _, _, _, _, _, _, _, _, _, _, _, _, _, _, _, _, _, _, _, _, _, _, _] _
    refine ops_val (ex_extract rfl rfl) ?_
    refine ops_val (ex_assign rfl) ?_
    refine ops_val (ex_assign rfl) ?_
    refine ops_nil ?_
    change Run _ _ _ _ [_, _, _, _, _, _, _, _, _, _, _, _, _, _, _, _, _, _, _, _, _, _, _, _, _, _, _, _, _, _, _, _, _, _, _, _, _, _, _, _, _, _, _, _, _, _, _, _, _, _, _, _, _, _, _, _, _, _, _, _, _, _, _, _, _, _, _, _, _, _, _, _, _, _, _, _, _, _, _, _, _, _, _, _, _, _, _, _, _, _, _, _, _, _, _, _, _, _, _, _, _, _, _, _] _
    refine run_seq ?_
    refine run_region ?_
    refine ops_val (ex_move rfl) ?_
    refine ops_test (ex_neq rfl rfl) (fun hp91 => ?_) (fun hp91 => ?_)
    · skip
      refine ops_val (ex_move rfl) ?_
      change Ops _ _ _ _ _ _ [_, _, _, _, _, _, _, _, _, _, _, _, _, _, _, _, _, _, _, _, _, _, _, _, _, _, _, _, _, _, _, _, _, _, _, _, _, _, _, _, _, _, _, _, _, _, _, _, _, _, _, _, _, _, _, _, _, _, _, _, _, _, _, _, _, _, _, _, _, _, _, _, _, _, _, _, _, _, _, _, _, _, _, _, _, _, _, _, _, _, _, _, _, _, _, _, _, _, _, _, _, _, _, _] _
      refine ops_no rfl ?_
      refine ops_no rfl ?_
      change Ops _ _ _ _ _ _ [_, _, _, _, _, _, _, _, _, _, _, _, _, _, _, _, _, _, _, _, _, _, _, _, _, _, _, _, _, _, _, _, _, _, _, _, _, _, _, _, _, _, _, _, _, _, _, _, _, _, _, _, _, _, _, _, _, _, _, _, _, _, _, _, _, _, _, _, _, _, _, _, _, _, _, _, _, _, _, _, _, _, _, _, _, _, _, _, _, _, _, _, _, _, _, _, _, _, _, _, _, _, _, _] _
      refine ops_no rfl ?_
      refine ops_no rfl ?_
      change Ops _ _ _ _ _ _ [_, _, _, _, _, _, _, _, _, _, _, _, _, _, _, _, _, _, _, _, _, _, _, _, _, _, _, _, _, _, _, _, _, _, _, _, _, _, _, _, _, _, _, _, _, _, _, _, _, _, _, _, _, _, _, _, _, _, _, _, _, _, _, _, _, _, _, _, _, _, _, _, _, _, _, _, _, _, _, _, _, _, _, _, _, _, _, _, _, _, _, _, _, _, _, _, _, _, _, _, _, _, _, _] _
      refine ops_no rfl ?_
      refine ops_no rfl ?_
      change Ops _ _ _ _ _ _ [_, _, _, _, _, _, _, _, _, _, _, _, _, _, _, _, _, _, _, _, _, _, _, _, _, _, _, _, _, _, _, _, _, _, _, _, _, _, _, _, _, _, _, _, _, _, _, _, _, _, _, _, _, _, _, _, _, _, _, _, _, _, _, _, _, _, _, _, _, _, _, _, _, _, _, _, _, _, _, _, _, _, _, _, _, _, _, _, _, _, _, _, _, _, _, _, _, _, _, _, _, _, _, _] _
      refine ops_no rfl ?_
      refine ops_no rfl ?_
      change Ops _ _ _ _ _ _ [_, _, _, _, _, _, _, _, _, _, _, _, _, _, _, _, _, _, _, _, _, _, _, _, _, _, _, _, _, _, _, _, _, _, _, _, _, _, _, _, _, _, _, _, _, _, _, _, _, _, _, _, _, _, _, _, _, _, _, _, _, _, _, _, _, _, _, _, _, _, _, _, _, _, _, _, _, _, _, _, _, _, _, _, _, _, _, _, _, _, _, _, _, _, _, _, _, _, _, _, _, _, _, _] _
      refine ops_no rfl ?_
      refine ops_no rfl ?_
      refine ops_val (ex_pick_t rfl rfl) ?_
      refine ops_val (ex_assign rfl) ?_
      refine ops_nil ?_
      change Run _ _ _ _ [_, _, _, _, _, _, _, _, _, _, _, _, _, _, _, _, _, _, _, _, _, _, _, _, _, _, _, _, _, _, _, _, _, _, _, _, _, _, _, _, _, _, _, _, _, _, _, _, _, _, _, _, _, _, _, _, _, _, _, _, _, _, _, _, _, _, _, _, _, _, _, _, _, _, _, _, _, _, _, _, _, _, _, _, _, _, _, _, _, _, _, _, _, _, _, _, _, _, _, _, _, _, _, _] _
      refine run_ret ?_
      refine fin_ret1 rfl rfl ?_
      exact ⟨rfl, H17.pick [] (by decide)⟩
    · have hf : f = 0 := by have := hp91; omega
      have hj1 := (one_text e2 hf).symm
      have hj4 : (b.take j).length = j := by rw [List.length_take]; omega
      refine ops_val (ex_move rfl) ?_
      change Ops _ _ _ _ _ _ [_, _, _, _, _, _, _, _, _, _, _, _, _, _, _, _, _, _, _, _, _, _, _, _, _, _, _, _, _, _, _, _, _, _, _, _, _, _, _, _, _, _, _, _, _, _, _, _, _, _, _, _, _, _, _, _, _, _, _, _, _, _, _, _, _, _, _, _, _, _, _, _, _, _, _, _, _, _, _, _, _, _, _, _, _, _, _, _, _, _, _, _, _, _, _, _, _, _, _, _, _, _, _, _] _
      refine ops_yes rfl ?_
      refine ops_val (ex_move rfl) ?_
      refine ops_yes rfl ?_
      refine ops_call_own (ex_call gf18 rfl) (text_any (hd gt) x ct _ (H17.rd (i := 3) (o := gt) (xs := u8s x) (sp := st) rfl (u8s_length1 _) (by decide)) (by omega)) ?_
      intro w18 go3 co3 so3 hmo3 hco3 hgo3 Hd
      have H18 := H17.call0 Hd
      replace hR1 := hR1.to0 Hd
      replace hR2 := hR2.to0 Hd
      replace hR3 := hR3.to0 Hd
      change Ops _ _ _ _ _ _ [_, _, _, _, _, _, _, _, _, _, _, _, _, _, _, _, _, _, _, _, _, _, _, _, _, _, _, _, _, _, _, _, _, _, _, _, _, _, _, _, _, _, _, _, _, _, _, _, _, _, _, _, _, _, _, _, _, _, _, _, _, _, _, _, _, _, _, _, _, _, _, _, _, _, _, _, _, _, _, _, _, _, _, _, _, _, _, _, _, _, _, _, _, _, _, _, _, _, _, _, _, _, _, _] _
      refine ops_yes rfl ?_
      refine ops_val (ex_move rfl) ?_
      refine ops_yes rfl ?_
      refine ops_val (ex_move rfl) ?_
      change Ops _ _ _ _ _ _ [_, _, _, _, _, _, _, _, _, _, _, _, _, _, _, _, _, _, _, _, _, _, _, _, _, _, _, _, _, _, _, _, _, _, _, _, _, _, _, _, _, _, _, _, _, _, _, _, _, _, _, _, _, _, _, _, _, _, _, _, _, _, _, _, _, _, _, _, _, _, _, _, _, _, _, _, _, _, _, _, _, _, _, _, _, _, _, _, _, _, _, _, _, _, _, _, _, _, _, _, _, _, _, _] _
      refine ops_yes rfl ?_
      refine ops_val (ex_len_slice Try.underlying22 rfl) ?_
      refine ops_yes rfl ?_
      refine ops_val (ex_move rfl) ?_
      change Ops _ _ _ _ _ _ [_, _, _, _, _, _, _, _, _, _, _, _, _, _, _, _, _, _, _, _, _, _, _, _, _, _, _, _, _, _, _, _, _, _, _, _, _, _, _, _, _, _, _, _, _, _, _, _, _, _, _, _, _, _, _, _, _, _, _, _, _, _, _, _, _, _, _, _, _, _, _, _, _, _, _, _, _, _, _, _, _, _, _, _, _, _, _, _, _, _, _, _, _, _, _, _, _, _, _, _, _, _, _, _] _
      refine ops_yes rfl ?_
      refine ops_call_val (ex_call gf14 rfl) (left_rd gr3 _ _ b j f _ hR3) ?_
      intro w19 Hd
      have H19 := H18.call0 Hd
      replace hR1 := hR1.to0 Hd
      replace hR2 := hR2.to0 Hd
      replace hR3 := hR3.to0 Hd
      refine ops_yes rfl ?_
      refine ops_val (ex_sub rfl rfl (show IntKind.i64.wrap ((b.length : Int) - ((b.length - j : Nat) : Int)) = (j : Int) from by rw [IntKind.wrap_i64]; omega)) ?_
      change Ops _ _ _ _ _ _ [_, _, _, _, _, _, _, _, _, _, _, _, _, _, _, _, _, _, _, _, _, _, _, _, _, _, _, _, _, _, _, _, _, _, _, _, _, _, _, _, _, _, _, _, _, _, _, _, _, _, _, _, _, _, _, _, _, _, _, _, _, _, _, _, _, _, _, _, _, _, _, _, _, _, _, _, _, _, _, _, _, _, _, _, _, _, _, _, _, _, _, _, _, _, _, _, _, _, _, _, _, _, _, _] _
      refine ops_yes rfl ?_
      refine ops_val (ex_cutHi Try.underlying22 ty5 rfl rfl (by omega)) ?_
      refine ops_yes rfl ?_
      have hk := bytes_any _ A (encText x) (b.take j) co3 c _ (H19.rd (i := 6) (o := go3) (xs := u8s (encText x)) (sp := so3) rfl (u8s_length1 _) (by decide)) ((hr.to0 H19).head hj) (by rw [hj1, hj4]; omega) (by omega)
      rw [hj4, decide_eq_true hj1] at hk
      refine ops_call_val (ex_call gf15 rfl) hk ?_
      intro w20 Hd
      have H20 := H19.call0 Hd
      refine ops_val (ex_pick_f rfl rfl) ?_
      refine ops_val (ex_assign rfl) ?_
      refine ops_nil ?_
      change Run _ _ _ _ [_, _, _, _, _, _, _, _, _, _, _, _, _, _, _, _, _, _, _, _, _, _, _, _, _, _, _, _, _, _, _, _, _, _, _, _, _, _, _, _, _, _, _, _, _, _, _, _, _, _, _, _, _, _, _, _, _, _, _, _, _, _, _, _, _, _, _, _, _, _, _, _, _, _, _, _, _, _, _, _, _, _, _, _, _, _, _, _, _, _, _, _, _, _, _, _, _, _, _, _, _, _, _, _] _
      refine run_ret ?_
      refine fin_ret1 rfl rfl ?_
      exact ⟨rfl, H20.pick [] (by decide)⟩
  · skip
    refine ops_nil ?_
    change Run _ _ _ _ [_, _, _, _, _, _, _, _, _, _, _, _, _, _, _, _, _, _, _, _, _, _, _, _, _, _, _, _, _, _, _, _, _, _, _, _, _, _, _, _, _, _, _, _, _, _, _, _, _, _, _, _, _, _, _, _, _, _, _, _, _, _, _, _, _, _, _, _, _, _, _, _, _, _, _, _, _, _, _, _, _, _, _, _, _, _, _, _, _, _, _, _, _, _, _, _, _, _, _, _, _, _, _, _] _
    refine run_cond_false rfl ?_
    refine run_skip ?_
    refine run_seq ?_
    refine run_region ?_
    refine ops_val (ex_move rfl) ?_
    refine ops_call_val (ex_call gf13 rfl) (fault_rd gr3 _ _ b j f _ hR3) ?_
    intro w9 Hd
    have H9 := H8.call0 Hd
    replace hR1 := hR1.to0 Hd
    replace hR2 := hR2.to0 Hd
    replace hR3 := hR3.to0 Hd
    refine ops_val (ex_move rfl) ?_
    refine ops_val (ex_extract rfl rfl) ?_
    change Ops _ _ _ _ _ _ [_, _, _, _, _, _, _, _, _, _, _, _, _, _, _, _, _, _, _, _, _, _, _, _, _, _, _, _, _, _, _, _, _, _, _, _, _, _, _, _, _, _, _, _, _, _, _, _, _, _, _, _, _, _, _, _, _, _, _, _, _, _, _, _, _, _, _, _, _, _, _, _, _, _, _, _, _, _, _, _, _, _, _, _, _, _, _, _, _, _, _, _, _, _, _, _, _, _, _, _, _, _, _, _] _
    refine ops_val (ex_extract rfl rfl) ?_
    refine ops_val (ex_assign rfl) ?_
    refine ops_val (ex_assign rfl) ?_
    refine ops_nil ?_
    change Run _ _ _ _ [_, _, _, _, _, _, _, _, _, _, _, _, _, _, _, _, _, _, _, _, _, _, _, _, _, _, _, _, _, _, _, _, _, _, _, _, _, _, _, _, _, _, _, _, _, _, _, _, _, _, _, _, _, _, _, _, _, _, _, _, _, _, _, _, _, _, _, _, _, _, _, _, _, _, _, _, _, _, _, _, _, _, _, _, _, _, _, _, _, _, _, _, _, _, _, _, _, _, _, _, _, _, _, _] _
    refine run_seq ?_
    refine run_region ?_
    refine ops_val (ex_move rfl) ?_
    refine ops_test (ex_neq rfl rfl) (fun hp91 => ?_) (fun hp91 => ?_)
    · skip
      refine ops_val (ex_move rfl) ?_
      change Ops _ _ _ _ _ _ [_, _, _, _, _, _, _, _, _, _, _, _, _, _, _, _, _, _, _, _, _, _, _, _, _, _, _, _, _, _, _, _, _, _, _, _, _, _, _, _, _, _, _, _, _, _, _, _, _, _, _, _, _, _, _, _, _, _, _, _, _, _, _, _, _, _, _, _, _, _, _, _, _, _, _, _, _, _, _, _, _, _, _, _, _, _, _, _, _, _, _, _, _, _, _, _, _, _, _, _, _, _, _, _] _
      refine ops_no rfl ?_
      refine ops_no rfl ?_
      change Ops _ _ _ _ _ _ [_, _, _, _, _, _, _, _, _, _, _, _, _, _, _, _, _, _, _, _, _, _, _, _, _, _, _, _, _, _, _, _, _, _, _, _, _, _, _, _, _, _, _, _, _, _, _, _, _, _, _, _, _, _, _, _, _, _, _, _, _, _, _, _, _, _, _, _, _, _, _, _, _, _, _, _, _, _, _, _, _, _, _, _, _, _, _, _, _, _, _, _, _, _, _, _, _, _, _, _, _, _, _, _] _
      refine ops_no rfl ?_
      refine ops_no rfl ?_
      change Ops _ _ _ _ _ _ [_, _, _, _, _, _, _, _, _, _, _, _, _, _, _, _, _, _, _, _, _, _, _, _, _, _, _, _, _, _, _, _, _, _, _, _, _, _, _, _, _, _, _, _, _, _, _, _, _, _, _, _, _, _, _, _, _, _, _, _, _, _, _, _, _, _, _, _, _, _, _, _, _, _, _, _, _, _, _, _, _, _, _, _, _, _, _, _, _, _, _, _, _, _, _, _, _, _, _, _, _, _, _, _] _
      refine ops_no rfl ?_
      refine ops_no rfl ?_
      change Ops _ _ _ _ _ _ [_, _, _, _, _, _, _, _, _, _, _, _, _, _, _, _, _, _, _, _, _, _, _, _, _, _, _, _, _, _, _, _, _, _, _, _, _, _, _, _, _, _, _, _, _, _, _, _, _, _, _, _, _, _, _, _, _, _, _, _, _, _, _, _, _, _, _, _, _, _, _, _, _, _, _, _, _, _, _, _, _, _, _, _, _, _, _, _, _, _, _, _, _, _, _, _, _, _, _, _, _, _, _, _] _
      refine ops_no rfl ?_
      refine ops_no rfl ?_
      change Ops _ _ _ _ _ _ [_, _, _, _, _, _, _, _, _, _, _, _, _, _, _, _, _, _, _, _, _, _, _, _, _, _, _, _, _, _, _, _, _, _, _, _, _, _, _, _, _, _, _, _, _, _, _, _, _, _, _, _, _, _, _, _, _, _, _, _, _, _, _, _, _, _, _, _, _, _, _, _, _, _, _, _, _, _, _, _, _, _, _, _, _, _, _, _, _, _, _, _, _, _, _, _, _, _, _, _, _, _, _, _] _
      refine ops_no rfl ?_
      refine ops_no rfl ?_
      refine ops_val (ex_pick_t rfl rfl) ?_
      refine ops_val (ex_assign rfl) ?_
      refine ops_nil ?_
      change Run _ _ _ _ [_, _, _, _, _, _, _, _, _, _, _, _, _, _, _, _, _, _, _, _, _, _, _, _, _, _, _, _, _, _, _, _, _, _, _, _, _, _, _, _, _, _, _, _, _, _, _, _, _, _, _, _, _, _, _, _, _, _, _, _, _, _, _, _, _, _, _, _, _, _, _, _, _, _, _, _, _, _, _, _, _, _, _, _, _, _, _, _, _, _, _, _, _, _, _, _, _, _, _, _, _, _, _, _] _
      refine run_ret ?_
      refine fin_ret1 rfl rfl ?_
      exact ⟨rfl, H9.pick [] (by decide)⟩
    · have hf : f = 0 := by have := hp91; omega
      have hj1 := (one_text e2 hf).symm
      have hj4 : (b.take j).length = j := by rw [List.length_take]; omega
      refine ops_val (ex_move rfl) ?_
      change Ops _ _ _ _ _ _ [_, _, _, _, _, _, _, _, _, _, _, _, _, _, _, _, _, _, _, _, _, _, _, _, _, _, _, _, _, _, _, _, _, _, _, _, _, _, _, _, _, _, _, _, _, _, _, _, _, _, _, _, _, _, _, _, _, _, _, _, _, _, _, _, _, _, _, _, _, _, _, _, _, _, _, _, _, _, _, _, _, _, _, _, _, _, _, _, _, _, _, _, _, _, _, _, _, _, _, _, _, _, _, _] _
      refine ops_yes rfl ?_
      refine ops_val (ex_move rfl) ?_
      refine ops_yes rfl ?_
      refine ops_call_own (ex_call gf18 rfl) (text_any (hd gt) x ct _ (H9.rd (i := 3) (o := gt) (xs := u8s x) (sp := st) rfl (u8s_length1 _) (by decide)) (by omega)) ?_
      intro w10 go3 co3 so3 hmo3 hco3 hgo3 Hd
      have H10 := H9.call0 Hd
      replace hR1 := hR1.to0 Hd
      replace hR2 := hR2.to0 Hd
      replace hR3 := hR3.to0 Hd
      change Ops _ _ _ _ _ _ [_, _, _, _, _, _, _, _, _, _, _, _, _, _, _, _, _, _, _, _, _, _, _, _, _, _, _, _, _, _, _, _, _, _, _, _, _, _, _, _, _, _, _, _, _, _, _, _, _, _, _, _, _, _, _, _, _, _, _, _, _, _, _, _, _, _, _, _, _, _, _, _, _, _, _, _, _, _, _, _, _, _, _, _, _, _, _, _, _, _, _, _, _, _, _, _, _, _, _, _, _, _, _, _] _
      refine ops_yes rfl ?_
      refine ops_val (ex_move rfl) ?_
      refine ops_yes rfl ?_
      refine ops_val (ex_move rfl) ?_
      change Ops _ _ _ _ _ _ [_, _, _, _, _, _, _, _, _, _, _, _, _, _, _, _, _, _, _, _, _, _, _, _, _, _, _, _, _, _, _, _, _, _, _, _, _, _, _, _, _, _, _, _, _, _, _, _, _, _, _, _, _, _, _, _, _, _, _, _, _, _, _, _, _, _, _, _, _, _, _, _, _, _, _, _, _, _, _, _, _, _, _, _, _, _, _, _, _, _, _, _, _, _, _, _, _, _, _, _, _, _, _, _] _
      refine ops_yes rfl ?_
      refine ops_val (ex_len_slice Try.underlying22 rfl) ?_
      refine ops_yes rfl ?_
      refine ops_val (ex_move rfl) ?_
      change Ops _ _ _ _ _ _ [_, _, _, _, _, _, _, _, _, _, _, _, _, _, _, _, _, _, _, _, _, _, _, _, _, _, _, _, _, _, _, _, _, _, _, _, _, _, _, _, _, _, _, _, _, _, _, _, _, _, _, _, _, _, _, _, _, _, _, _, _, _, _, _, _, _, _, _, _, _, _, _, _, _, _, _, _, _, _, _, _, _, _, _, _, _, _, _, _, _, _, _, _, _, _, _, _, _, _, _, _, _, _, _] _
      refine ops_yes rfl ?_
      refine ops_call_val (ex_call gf14 rfl) (left_rd gr3 _ _ b j f _ hR3) ?_
      intro w11 Hd
      have H11 := H10.call0 Hd
      replace hR1 := hR1.to0 Hd
      replace hR2 := hR2.to0 Hd
      replace hR3 := hR3.to0 Hd
      refine ops_yes rfl ?_
      refine ops_val (ex_sub rfl rfl (show IntKind.i64.wrap ((b.length : Int) - ((b.length - j : Nat) : Int)) = (j : Int) from by rw [IntKind.wrap_i64]; omega)) ?_
      change Ops _ _ _ _ _ _ [_, _, _, _, _, _, _, _, _, _, _, _, _, _, _, _, _, _, _, _, _, _, _, _, _, _, _, _, _, _, _, _, _, _, _, _, _, _, _, _, _, _, _, _, _, _, _, _, _, _, _, _, _, _, _, _, _, _, _, _, _, _, _, _, _, _, _, _, _, _, _, _, _, _, _, _, _, _, _, _, _, _, _, _, _, _, _, _, _, _, _, _, _, _, _, _, _, _, _, _, _, _, _, _] _
      refine ops_yes rfl ?_
      refine ops_val (ex_cutHi Try.underlying22 ty5 rfl rfl (by omega)) ?_
      refine ops_yes rfl ?_
      have hk := bytes_any _ A (encText x) (b.take j) co3 c _ (H11.rd (i := 4) (o := go3) (xs := u8s (encText x)) (sp := so3) rfl (u8s_length1 _) (by decide)) ((hr.to0 H11).head hj) (by rw [hj1, hj4]; omega) (by omega)
      rw [hj4, decide_eq_true hj1] at hk
      refine ops_call_val (ex_call gf15 rfl) hk ?_
      intro w12 Hd
      have H12 := H11.call0 Hd
      refine ops_val (ex_pick_f rfl rfl) ?_
      refine ops_val (ex_assign rfl) ?_
      refine ops_nil ?_
      change Run _ _ _ _ [_, _, _, _, _, _, _, _, _, _, _, _, _, _, _, _, _, _, _, _, _, _, _, _, _, _, _, _, _, _, _, _, _, _, _, _, _, _, _, _, _, _, _, _, _, _, _, _, _, _, _, _, _, _, _, _, _, _, _, _, _, _, _, _, _, _, _, _, _, _, _, _, _, _, _, _, _, _, _, _, _, _, _, _, _, _, _, _, _, _, _, _, _, _, _, _, _, _, _, _, _, _, _, _] _
      refine run_ret ?_
      refine fin_ret1 rfl rfl ?_
      exact ⟨rfl, H12.pick [] (by decide)⟩
end Go.Proofs.Ytlglenbmpikhmaa
