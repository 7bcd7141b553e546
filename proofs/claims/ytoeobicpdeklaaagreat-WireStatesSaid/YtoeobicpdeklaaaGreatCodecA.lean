/- Walks of layer 2, printed by wip/gen/codec.py. -/
import Derived.Test.YtoeobicpdeklaaaGreatNrm
import Derived.Test.YtoeobicpdeklaaaGreatTypes
import Derived.Test.YtoeobicpdeklaaaGreatCodecFns
namespace Go.Proofs.YtoeobicpdeklaaaGreat
open Go Go.RowKit
set_option linter.unusedVariables false
attribute [local irreducible] Still Ops Does Cd
set_option maxRecDepth 100000 in
set_option maxHeartbeats 4000000 in
theorem num_any (v : Nat) (w0 : World) (hv : v < 2 ^ 64) :
    Does Tryz.prog 68 #[.int .u64 v] w0 (fun r w' => Own w0 w' r (enc v)) := by
  refine does_of Tryz.func68 Tryz.ntmps68 rfl ?_
  refine nR19 ?_
  have H := Hp.refl w0
  refine run_seq ?_
  refine run_region ?_
  refine ops_val (ex_assign rfl) ?_
  refine ops_nil ?_
  refine nR19 ?_
  refine run_seq ?_
  refine run_region ?_
  refine ops_val (ex_assign rfl) ?_
  refine ops_nil ?_
  refine nR19 ?_
  refine run_seq ?_
  refine run_block ?_
  refine run_loop (fun n l w => ∃ (v1 : Nat) (pre : List UInt8) (x : Int) (g : Option Nat) (m cap : Nat) (xs sp : List Value), v1 = n ∧ Fits [some (.int .u64 x), none, some (.slice none 0 0), some (.slice (hd g) m cap), none, none, none, none, none, none, none, none, none, none, none, none, none, none, none] l ∧ x = v1 ∧ v1 ≤ v ∧ m = pre.length ∧ xs = u8s pre ∧ enc v = pre ++ enc v1 ∧ m ≤ cap ∧ cap * 1 ≤ (xs ++ sp).length ∧ (g = none → cap = 0) ∧ Hp w0 w [] [(g, 5, xs ++ sp)]) (v) ?_ ?_
  · exact ⟨v, [], _, none, 0, 0, [], [], rfl, (fs (fn (fs (fs (fn (fn (fn (fn (fn (fn (fn (fn (fn (fn (fn (fn (fn (fn (fn f0))))))))))))))))))), rfl, Nat.le_refl _, rfl, rfl, rfl, Nat.le_refl _, by simp, fun _ => rfl, H.nil 5⟩
  · rintro n l w1 ⟨v1, pre, x, g, m, cap, xs, sp, rfl, hfit, rfl, hle, rfl, rfl, henc, hmc, hcap, hg0, H1⟩
    obtain ⟨j, rfl⟩ := hfit.open
    refine nR19 ?_
    clear hfit
    have hl10 := enc_len64 hv
    have hlp : pre.length + (enc v1).length = (enc v).length := by rw [henc]; simp
    have hpos := enc_pos v1
    refine run_seq ?_
    refine run_seq ?_
    refine run_region ?_
    refine ops_val (ex_move rfl) ?_
    refine ops_test (ex_geq rfl rfl) (fun hp5 => ?_) (fun hp5 => ?_)
    · skip
      refine ops_nil ?_
      refine nR19 ?_
      refine run_cond_true rfl ?_
      refine run_skip ?_
      refine run_block ?_
      refine run_seq ?_
      refine run_region ?_
      refine ops_val (ex_move rfl) ?_
      refine ops_val (ex_move rfl) ?_
      refine ops_val (ex_conv Tryz.underlying5 Tryz.underlying136 rfl (u8w v1)) ?_
      refine ops_val (ex_or rfl rfl (or128 v1)) ?_
      refine nO19 ?_
      refine ops_buildSlice Tryz.underlying29 ty5 H1 rfl (by decide) rfl ?_
      intro w2 g2 H2 hg2
      refine ops_append Tryz.underlying29 ty5 (by decide) H2 0 rfl rfl (u8s_length1 pre) hcap hmc hg0 rfl (H2.rd (i := 1) (o := some g2) (xs := [Value.int .u8 ((v1 % 128 + 128 : Nat) : Int)]) (sp := []) rfl rfl (by decide)) rfl (by omega) (by omega) (by decide) ?_
      intro w3 g3 cap3 sp3 H3 hcap3 hmc3 hg3
      refine ops_val (ex_assign rfl) ?_
      refine ops_nil ?_
      refine nR19 ?_
      refine run_region ?_
      refine ops_val (ex_move rfl) ?_
      refine ops_val (ex_shr rfl rfl (by omega) (shr7 v1)) ?_
      refine ops_val (ex_assign rfl) ?_
      refine ops_nil ?_
      refine nR19 ?_
      refine run_nil (blk_normal ?_)
      refine run_nil (rnd_normal ?_)
      exact ⟨v1 / 128, by omega, v1 / 128, pre ++ [UInt8.ofNat (v1 % 128 + 128)], _, g3, _, cap3, u8s pre ++ [Value.int .u8 ((v1 % 128 + 128 : Nat) : Int)], sp3, rfl, (fs (fn (fs (fs (fn (fn (fn (fn (fn (fn (fn (fn (fn (fn (fn (fn (fn (fn (fn f0))))))))))))))))))), rfl, by omega, by simp, by rw [u8s_append, u8s_one, u8n (by omega)], by rw [henc, enc_ge (by omega)]; simp, hmc3, hcap3, hg3, H3.pick [0] (by decide)⟩
    · skip
      refine ops_nil ?_
      refine nR19 ?_
      refine run_cond_false rfl ?_
      refine run_exit ?_
      refine rnd_exit ?_
      refine blk_exit ?_
      refine run_seq ?_
      refine run_region ?_
      refine ops_val (ex_move rfl) ?_
      refine ops_val (ex_move rfl) ?_
      refine ops_val (ex_conv Tryz.underlying5 Tryz.underlying136 rfl (u8w v1)) ?_
      refine ops_buildSlice Tryz.underlying29 ty5 H1 rfl (by decide) rfl ?_
      intro w2 g2 H2 hg2
      refine nO19 ?_
      refine ops_append Tryz.underlying29 ty5 (by decide) H2 0 rfl rfl (u8s_length1 pre) hcap hmc hg0 rfl (H2.rd (i := 1) (o := some g2) (xs := [Value.int .u8 ((v1 % 256 : Nat) : Int)]) (sp := []) rfl rfl (by decide)) rfl (by omega) (by omega) (by decide) ?_
      intro w3 g3 cap3 sp3 H3 hcap3 hmc3 hg3
      refine ops_val (ex_assign rfl) ?_
      refine ops_nil ?_
      refine nR19 ?_
      refine run_ret ?_
      refine fin_ret1 rfl rfl ?_
      have e1 : enc v = pre ++ [UInt8.ofNat v1] := by rw [henc, enc_lt (by omega)]
      have e2 : u8s (enc v) = u8s pre ++ [.int .u8 ((v1 % 256 : Nat) : Int)] := by rw [e1, u8s_append, u8s_one, u8n (by omega), Nat.mod_eq_of_lt (by omega)]
      have e3 : (enc v).length = pre.length + 1 := by rw [e1]; simp
      unfold Own
      rw [e2, e3]
      exact ⟨g3, cap3, sp3, rfl, hmc3, hcap3, hg3, H3.pick [0] (by decide)⟩
set_option maxRecDepth 100000 in
set_option maxHeartbeats 4000000 in
theorem int_any (n : Int) (w0 : World) (hlo : -9223372036854775808 ≤ n) (hhi : n ≤ 9223372036854775807) :
    Does Tryz.prog 65 #[.int .i64 n] w0 (fun r w' => Own w0 w' r (encInt n)) := by
  refine does_of Tryz.func65 Tryz.ntmps65 rfl ?_
  refine nR15 ?_
  have H := Hp.refl w0
  refine run_seq ?_
  refine run_region ?_
  refine ops_val (ex_assign rfl) ?_
  refine ops_nil ?_
  refine nR15 ?_
  refine run_seq ?_
  refine run_seq ?_
  refine run_region ?_
  refine ops_val (ex_move rfl) ?_
  refine ops_test (ex_lss rfl rfl) (fun hp4 => ?_) (fun hp4 => ?_)
  · skip
    refine ops_nil ?_
    refine nR15 ?_
    refine run_cond_true rfl ?_
    refine run_seq ?_
    refine run_region ?_
    refine ops_val (ex_move rfl) ?_
    refine ops_val (ex_compl rfl ((compl_neg n hlo hp4).trans (show -n - 1 = (((-n - 1).toNat : Nat) : Int) by omega))) ?_
    refine ops_val (ex_conv Tryz.underlying136 Tryz.underlying3 rfl (IntWalk.u64_in _ (by omega))) ?_
    refine ops_val (ex_shl rfl rfl (by omega) (shl1 _ (by omega))) ?_
    refine nO15 ?_
    refine ops_val (ex_or rfl rfl (or1 _ (by omega))) ?_
    refine ops_call_own (ex_call gf68 rfl) (num_any (2 * (-n - 1).toNat + 1) _ (by omega)) ?_
    intro w1 g1 c1 sp1 hm1 hc1 hg1 H1
    refine ops_val (ex_assign rfl) ?_
    refine ops_nil ?_
    refine nR15 ?_
    refine run_ret ?_
    refine fin_ret1 rfl rfl ?_
    have e : encInt n = enc (2 * (-n - 1).toNat + 1) := by rw [encInt_eq]; unfold zig; rw [if_pos hp4]; congr 1; omega
    rw [e]
    exact ⟨g1, c1, sp1, rfl, hm1, hc1, hg1, H1⟩
  · obtain ⟨m, rfl⟩ := Int.eq_ofNat_of_zero_le (show 0 ≤ n by omega)
    refine ops_nil ?_
    refine nR15 ?_
    refine run_cond_false rfl ?_
    refine run_skip ?_
    refine run_seq ?_
    refine run_region ?_
    refine ops_val (ex_move rfl) ?_
    refine ops_val (ex_conv Tryz.underlying136 Tryz.underlying3 rfl (IntWalk.u64_in _ (by omega))) ?_
    refine ops_val (ex_shl rfl rfl (by omega) (shl1 _ (by omega))) ?_
    refine ops_call_own (ex_call gf68 rfl) (num_any (2 * m) _ (by omega)) ?_
    intro w1 g1 c1 sp1 hm1 hc1 hg1 H1
    refine nO15 ?_
    refine ops_val (ex_assign rfl) ?_
    refine ops_nil ?_
    refine nR15 ?_
    refine run_ret ?_
    refine fin_ret1 rfl rfl ?_
    have e : encInt (m : Int) = enc (2 * m) := by rw [encInt_eq]; unfold zig; rw [if_neg (by omega)]; congr 1
    rw [e]
    exact ⟨g1, c1, sp1, rfl, hm1, hc1, hg1, H1⟩
set_option maxRecDepth 100000 in
set_option maxHeartbeats 4000000 in
theorem clone_any (A : Option Addr) (b : List UInt8) (c : Nat) (w0 : World) (hr : Rd w0 A b.length 1 (u8s b)) (hb : b.length ≤ 211106232532992) :
    Does Tryz.prog 88 #[.slice A b.length c] w0 (fun r w' => Own w0 w' r (b)) := by
  refine does_of Tryz.func88 Tryz.ntmps88 rfl ?_
  change Run _ _ _ _ [.slice A b.length c, undef, undef, undef, undef, undef, undef, undef] _
  have H := Hp.refl w0
  refine run_seq ?_
  refine run_region ?_
  refine ops_val (ex_assign rfl) ?_
  refine ops_nil ?_
  change Run _ _ _ _ [_, _, _, _, _, _, _, _] _
  refine run_seq ?_
  refine run_seq ?_
  refine run_region ?_
  refine ops_val (ex_move rfl) ?_
  refine ops_test (ex_eql_nil_slice Tryz.underlying29 rfl) (fun hp4 => ?_) (fun hp4 => ?_)
  · skip
    refine ops_nil ?_
    change Run _ _ _ _ [_, _, _, _, _, _, _, _] _
    refine run_cond_true rfl ?_
    refine run_seq ?_
    refine run_region ?_
    refine ops_val (ex_assign rfl) ?_
    refine ops_nil ?_
    change Run _ _ _ _ [_, _, _, _, _, _, _, _] _
    refine run_ret ?_
    refine fin_ret1 rfl rfl ?_
    have hb : b = [] := List.eq_nil_of_length_eq_zero (hr.nil hp4)
    subst hb
    exact ⟨none, 0, [], rfl, Nat.le_refl _, by simp, fun _ => rfl, by have := H.nil 5; exact this⟩
  · skip
    refine ops_nil ?_
    change Run _ _ _ _ [_, _, _, _, _, _, _, _] _
    refine run_cond_false rfl ?_
    refine run_skip ?_
    refine run_seq ?_
    refine run_region ?_
    refine ops_buildSlice Tryz.underlying29 ty5 H rfl (by decide) rfl ?_
    intro w1 g1 H1 hg1
    refine ops_val (ex_move rfl) ?_
    refine ops_append Tryz.underlying29 ty5 (by decide) H1 0 (g := some g1) (xs := []) (sp := []) rfl rfl rfl (by decide) (by decide) (by simp) rfl (hr.to0 H1) (u8s_one' b) (by omega) (by omega) (by decide) ?_
    intro w2 g3 cap3 sp3 H2 hcap3 hmc3 hg3
    refine ops_val (ex_assign rfl) ?_
    refine ops_nil ?_
    change Run _ _ _ _ [_, _, _, _, _, _, _, _] _
    refine run_ret ?_
    refine fin_ret1 rfl rfl ?_
    rw [Nat.zero_add] at hmc3
    refine ⟨g3, cap3, sp3, ?_, hmc3, hcap3, hg3, H2.pick [0] (by decide)⟩
    rw [Nat.zero_add]
set_option maxRecDepth 100000 in
set_option maxHeartbeats 4000000 in
theorem text_any (A : Option Addr) (b : List UInt8) (c : Nat) (w0 : World) (hr : Rd w0 A b.length 1 (u8s b)) (hb : b.length ≤ 211106232532900) :
    Does Tryz.prog 75 #[.slice A b.length c] w0 (fun r w' => Own w0 w' r (encText b)) := by
  have hl10 := enc_len64 (v := b.length) (by omega)
  refine does_of Tryz.func75 Tryz.ntmps75 rfl ?_
  change Run _ _ _ _ [.slice A b.length c, undef, undef, undef, undef, undef, undef, undef, undef] _
  have H := Hp.refl w0
  refine run_seq ?_
  refine run_region ?_
  refine ops_val (ex_assign rfl) ?_
  refine ops_nil ?_
  change Run _ _ _ _ [_, _, _, _, _, _, _, _, _] _
  refine run_seq ?_
  refine run_region ?_
  refine ops_val (ex_move rfl) ?_
  refine ops_val (ex_len_slice Tryz.underlying29 rfl) ?_
  refine ops_val (ex_conv Tryz.underlying136 Tryz.underlying3 rfl ((IntWalk.u64_in _ (by omega)))) ?_
  refine ops_call_own (ex_call gf68 rfl) (num_any b.length _ (by omega)) ?_
  intro w1 g1 c1 sp1 hm1 hc1 hg1 H1
  change Ops _ _ _ _ _ _ [_, _, _, _, _, _, _, _, _] _
  refine ops_val (ex_move rfl) ?_
  refine ops_append Tryz.underlying29 ty5 (by decide) H1 0 rfl rfl (u8s_length1 _) hc1 hm1 hg1 rfl (hr.to0 H1) (u8s_one' b) (by omega) (by omega) (by decide) ?_
  intro w2 g3 cap3 sp3 H2 hcap3 hmc3 hg3
  refine ops_val (ex_assign rfl) ?_
  refine ops_nil ?_
  change Run _ _ _ _ [_, _, _, _, _, _, _, _, _] _
  refine run_ret ?_
  refine fin_ret1 rfl rfl ?_
  unfold Own
  rw [encText_eq, u8s_append, List.length_append]
  exact ⟨g3, cap3, sp3, rfl, hmc3, hcap3, hg3, H2⟩
set_option maxRecDepth 100000 in
set_option maxHeartbeats 4000000 in
theorem plain_any (A B : Option Addr) (a b : List UInt8) (c d : Nat) (w0 : World) (hra : Rd w0 A a.length 1 (u8s a)) (hrb : Rd w0 B b.length 1 (u8s b)) (ha : a.length ≤ 211106232532992) (hb : b.length ≤ 211106232532992) :
    Does Tryz.prog 23 #[.slice A a.length c, .slice B b.length d] w0 (fun r w' => r = .bool (decide (a = b)) ∧ Hp w0 w' [] []) := by
  refine does_of Tryz.func23 Tryz.ntmps23 rfl ?_
  refine nR26 ?_
  have H := Hp.refl w0
  refine run_seq ?_
  refine run_region ?_
  refine ops_val (ex_assign rfl) ?_
  refine ops_nil ?_
  refine nR26 ?_
  refine run_seq ?_
  refine run_seq ?_
  refine run_region ?_
  refine ops_val (ex_move rfl) ?_
  refine ops_val (ex_len_slice Tryz.underlying29 rfl) ?_
  refine ops_val (ex_move rfl) ?_
  refine ops_val (ex_len_slice Tryz.underlying29 rfl) ?_
  refine nO26 ?_
  refine ops_test (ex_neq rfl rfl) (fun hp10 => ?_) (fun hp10 => ?_)
  · skip
    refine ops_nil ?_
    refine nR26 ?_
    refine run_cond_true rfl ?_
    refine run_seq ?_
    refine run_region ?_
    refine ops_val (ex_assign rfl) ?_
    refine ops_nil ?_
    refine nR26 ?_
    refine run_ret ?_
    refine fin_ret1 rfl rfl ?_
    exact ⟨by rw [decide_eq_false (by rintro rfl; omega)], H⟩
  · have hlen : a.length = b.length := by omega
    refine ops_nil ?_
    refine nR26 ?_
    refine run_cond_false rfl ?_
    refine run_skip ?_
    refine run_seq ?_
    refine run_seq ?_
    refine run_region ?_
    refine ops_val (ex_assign rfl) ?_
    refine ops_nil ?_
    refine nR26 ?_
    refine run_block ?_
    refine run_loop (fun n l w => ∃ (i : Nat) (y : Int), a.length - i = n ∧ Fits [some (.slice A a.length c), some (.slice B b.length d), none, none, none, some (.int .i64 y), some (.slice A a.length c), some (.int .i64 a.length), some (.slice B b.length d), some (.int .i64 b.length), some (.bool false), none, none, none, none, none, none, none, none, none, none, none, none, none, none, none] l ∧ y = i ∧ i ≤ a.length ∧ a.take i = b.take i ∧ Hp w0 w [] []) (a.length) ?_ ?_
    · exact ⟨0, _, rfl, (fs (fs (fn (fn (fn (fs (fs (fs (fs (fs (fs (fn (fn (fn (fn (fn (fn (fn (fn (fn (fn (fn (fn (fn (fn (fn f0)))))))))))))))))))))))))), rfl, Nat.zero_le _, rfl, H⟩
    · rintro n l w1 ⟨i, y, rfl, hfit, rfl, hi, hpre, H1⟩
      obtain ⟨j, rfl⟩ := hfit.open
      refine nR26 ?_
      clear hfit
      refine run_seq ?_
      refine run_seq ?_
      refine run_region ?_
      refine ops_val (ex_move rfl) ?_
      refine ops_val (ex_move rfl) ?_
      refine ops_val (ex_len_slice Tryz.underlying29 rfl) ?_
      refine ops_test (ex_lss rfl rfl) (fun hp14 => ?_) (fun hp14 => ?_)
      · obtain ⟨x, rfl⟩ := hra.some_ (by omega)
        obtain ⟨z, rfl⟩ := hrb.some_ (by omega)
        have hia : i < a.length := by omega
        have hib : i < b.length := by omega
        refine ops_nil ?_
        refine nR26 ?_
        refine run_cond_true rfl ?_
        refine run_skip ?_
        refine run_seq ?_
        refine run_block ?_
        refine run_seq ?_
        refine run_still mixed (by kernel_rfl) ?_
        rintro w2 hw2
        have H2 := Hp.drew H1; rw [← hw2] at H2
        refine still_val (ex_move rfl) ?_
        refine still_val (ex_move rfl) ?_
        refine still_val (ex_idx Tryz.underlying29 ty5 rfl rfl rfl hia (Nat.mul_one _)) ?_
        refine still_val (ex_load ty5 rfl ((hra.to0 H2).cells x rfl i _ (u8s_get hia))) ?_
        refine nS26 ?_
        refine still_val (ex_move rfl) ?_
        refine still_val (ex_move rfl) ?_
        refine still_val (ex_idx Tryz.underlying29 ty5 rfl rfl rfl hib (Nat.mul_one _)) ?_
        refine still_val (ex_load ty5 rfl ((hrb.to0 H2).cells z rfl i _ (u8s_get hib))) ?_
        refine nS26 ?_
        refine still_test (ex_neq rfl rfl) (fun hp25 => ?_) (fun hp25 => ?_)
        · skip
          refine still_nil ?_
          refine nR26 ?_
          refine run_cond_true rfl ?_
          refine run_seq ?_
          refine run_region ?_
          refine ops_val (ex_assign rfl) ?_
          refine ops_nil ?_
          refine nR26 ?_
          refine run_ret ?_
          refine blk_ret ?_
          refine rnd_ret ?_
          refine blk_ret ?_
          refine fin_ret1 rfl rfl ?_
          exact ⟨by rw [decide_eq_false (by rintro rfl; omega)], H2⟩
        · skip
          refine still_nil ?_
          refine nR26 ?_
          refine run_cond_false rfl ?_
          refine run_skip ?_
          refine run_nil (blk_normal ?_)
          refine run_region ?_
          refine ops_val (ex_move rfl) ?_
          refine ops_val (ex_add rfl rfl (IntWalk.i64_in _ (by omega))) ?_
          refine ops_val (ex_assign rfl) ?_
          refine ops_nil ?_
          refine nR26 ?_
          refine run_nil (rnd_normal ?_)
          exact ⟨a.length - (i + 1), by omega, i + 1, _, rfl, (fs (fs (fn (fn (fn (fs (fs (fs (fs (fs (fs (fn (fn (fn (fn (fn (fn (fn (fn (fn (fn (fn (fn (fn (fn (fn f0)))))))))))))))))))))))))), by omega, by omega, by rw [← List.take_append_getElem hia, ← List.take_append_getElem hib, hpre, UInt8.toNat_inj.1 (show a[i].toNat = b[i].toNat by omega)], H2⟩
      · skip
        refine ops_nil ?_
        refine nR26 ?_
        refine run_cond_false rfl ?_
        refine run_exit ?_
        refine rnd_exit ?_
        refine blk_exit ?_
        refine run_seq ?_
        refine run_region ?_
        refine ops_val (ex_assign rfl) ?_
        refine ops_nil ?_
        refine nR26 ?_
        refine run_ret ?_
        refine fin_ret1 rfl rfl ?_
        exact ⟨by rw [decide_eq_true (by rw [← List.take_of_length_le (l := a) (i := i) (by omega), hpre, List.take_of_length_le (by omega)])], H1⟩
set_option maxRecDepth 100000 in
set_option maxHeartbeats 4000000 in
theorem bytes_any (A B : Option Addr) (a b : List UInt8) (c d : Nat) (w0 : World) (hra : Rd w0 A a.length 1 (u8s a)) (hrb : Rd w0 B b.length 1 (u8s b)) (ha : a.length ≤ 211106232532992) (hb : b.length ≤ 211106232532992) :
    Does Tryz.prog 10 #[.slice A a.length c, .slice B b.length d] w0 (fun r w' => r = .bool (decide (a = b)) ∧ Hp w0 w' [] []) := by
  refine does_of Tryz.func10 Tryz.ntmps10 rfl ?_
  change Run _ _ _ _ [.slice A a.length c, .slice B b.length d, undef, undef, undef, undef, undef, undef] _
  have H := Hp.refl w0
  refine run_seq ?_
  refine run_region ?_
  refine ops_val (ex_assign rfl) ?_
  refine ops_nil ?_
  change Run _ _ _ _ [_, _, _, _, _, _, _, _] _
  refine run_seq ?_
  refine run_region ?_
  refine ops_val (ex_move rfl) ?_
  refine ops_val (ex_move rfl) ?_
  refine ops_call_val (ex_call gf23 rfl) (plain_any A B a b c d _ (hra.to0 H) (hrb.to0 H) ha hb) ?_
  intro w1 Hc
  have H1 := H.call0 Hc
  refine ops_val (ex_assign rfl) ?_
  refine ops_nil ?_
  change Run _ _ _ _ [_, _, _, _, _, _, _, _] _
  refine run_ret ?_
  refine fin_ret1 rfl rfl ?_
  exact ⟨rfl, H1⟩
set_option maxRecDepth 100000 in
set_option maxHeartbeats 4000000 in
theorem number_any (A : Option Addr) (b : List UInt8) (c : Nat) (w0 : World) (hr : Rd w0 A b.length 1 (u8s b)) (hb : b.length ≤ 211106232532992) :
    Does Tryz.prog 108 #[.slice A b.length c] w0 (fun r w' => r = .tuple #[.int .u64 (numOf b).1, .int .i64 (numOf b).2.1, .int .i64 (numOf b).2.2] ∧ w' = w0) := by
  refine does_of Tryz.func108 Tryz.ntmps108 rfl ?_
  refine nR41 ?_
  have H := Hp.refl w0
  refine run_seq ?_
  refine run_region ?_
  refine ops_val (ex_assign rfl) ?_
  refine ops_val (ex_assign rfl) ?_
  refine ops_val (ex_assign rfl) ?_
  refine ops_nil ?_
  refine nR41 ?_
  refine run_seq ?_
  refine run_region ?_
  refine ops_val (ex_assign rfl) ?_
  refine ops_nil ?_
  refine nR41 ?_
  refine run_seq ?_
  refine run_seq ?_
  refine run_region ?_
  refine ops_val (ex_move rfl) ?_
  refine ops_val (ex_len_slice Tryz.underlying29 rfl) ?_
  refine ops_val (ex_move rfl) ?_
  refine ops_nil ?_
  refine nR41 ?_
  refine run_block ?_
  refine run_loop (fun n l w => ∃ (i v : Nat) (x y : Int), b.length - i = n ∧ Fits [some (.slice A b.length c), none, none, none, none, some (.int .u64 x), none, none, some (.slice A b.length c), some (.int .i64 b.length), some (.int .i64 y), none, none, none, none, none, none, none, none, none, none, none, none, none, none, none, none, none, none, none, none, none, none, none, none, none, none, none, none, none, none] l ∧ x = v ∧ y = i ∧ i ≤ b.length ∧ i ≤ 9 ∧ v < 2 ^ (7 * i) ∧ numOf b = numGo (b.drop i) i v ∧ w = w0) (b.length) ?_ ?_
  · exact ⟨0, 0, _, _, rfl, (fs (fn (fn (fn (fn (fs (fn (fn (fs (fs (fs (fn (fn (fn (fn (fn (fn (fn (fn (fn (fn (fn (fn (fn (fn (fn (fn (fn (fn (fn (fn (fn (fn (fn (fn (fn (fn (fn (fn (fn (fn f0))))))))))))))))))))))))))))))))))))))))), rfl, rfl, Nat.zero_le _, by omega, by decide, numOf_eq b, rfl⟩
  · rintro n l w1 ⟨i, v, x, y, rfl, hfit, rfl, rfl, hi, hi9, hv, hnum, rfl⟩
    obtain ⟨j, rfl⟩ := hfit.open
    refine nR41 ?_
    clear hfit
    refine run_seq ?_
    refine run_region ?_
    refine ops_test (ex_lss rfl rfl) (fun hp11 => ?_) (fun hp11 => ?_)
    · obtain ⟨a, rfl⟩ := hr.some_ (by omega)
      have hib : i < b.length := by omega
      rw [List.drop_eq_getElem_cons hib, numGo] at hnum
      have hc := b[i].toNat_lt
      generalize hcb : b[i].toNat = cc at hc hnum
      refine ops_nil ?_
      refine nR41 ?_
      refine run_seq ?_
      refine run_cond_true rfl ?_
      refine run_skip ?_
      refine run_seq ?_
      refine run_block ?_
      refine run_seq ?_
      refine run_region ?_
      refine ops_val (ex_move rfl) ?_
      refine ops_val (ex_idx Tryz.underlying29 ty5 rfl rfl rfl hib (Nat.mul_one _)) ?_
      refine ops_val (ex_load ty5 rfl (hr.cells a rfl i (.int .u8 (cc : Int)) (by rw [← hcb]; exact u8s_get hib))) ?_
      refine ops_val (ex_assign rfl) ?_
      refine nO41 ?_
      refine ops_val (ex_assign rfl) ?_
      refine ops_nil ?_
      refine nR41 ?_
      refine run_seq ?_
      refine run_seq ?_
      refine run_region ?_
      refine ops_val (ex_move rfl) ?_
      refine ops_test (ex_eql rfl rfl) (fun hp16 => ?_) (fun hp16 => ?_)
      · have h9 : i = 9 := by omega
        refine ops_val (ex_move rfl) ?_
        refine nO41 ?_
        refine ops_yes rfl ?_
        refine ops_val (ex_move rfl) ?_
        refine ops_yes rfl ?_
        refine ops_test (ex_gtr rfl rfl) (fun hp19 => ?_) (fun hp19 => ?_)
        · rw [if_pos ⟨h9, by omega⟩] at hnum
          refine ops_val (ex_pick_t rfl rfl) ?_
          refine ops_nil ?_
          refine nR41 ?_
          refine run_cond_true rfl ?_
          refine run_seq ?_
          refine run_region ?_
          refine ops_val (ex_assign rfl) ?_
          refine ops_val (ex_assign rfl) ?_
          refine ops_val (ex_assign rfl) ?_
          refine ops_nil ?_
          refine nR41 ?_
          refine run_ret ?_
          refine blk_ret ?_
          refine rnd_ret ?_
          refine blk_ret ?_
          refine fin_ret3 rfl rfl rfl rfl ?_
          rw [hnum]
          exact ⟨rfl, rfl⟩
        · rw [if_neg (by omega)] at hnum
          refine ops_val (ex_pick_t rfl rfl) ?_
          refine ops_nil ?_
          refine nR41 ?_
          refine run_cond_false rfl ?_
          refine run_skip ?_
          refine run_seq ?_
          refine run_region ?_
          refine ops_val (ex_move rfl) ?_
          refine ops_val (ex_move rfl) ?_
          refine ops_val (ex_and rfl rfl (and127 cc hc)) ?_
          refine ops_val (ex_conv Tryz.underlying136 Tryz.underlying5 rfl (IntWalk.u64_in _ (by omega))) ?_
          refine nO41 ?_
          refine ops_val (ex_move rfl) ?_
          refine ops_val (ex_mul rfl rfl (IntWalk.i64_in _ (by omega))) ?_
          refine ops_val (ex_shl rfl rfl (by omega) (shl7 (by omega) (by omega) (by omega))) ?_
          refine ops_val (ex_or rfl rfl (or_place (by omega) (by omega) (by omega) hv)) ?_
          refine nO41 ?_
          refine ops_val (ex_assign rfl) ?_
          refine ops_nil ?_
          refine nR41 ?_
          refine run_seq ?_
          refine run_seq ?_
          refine run_region ?_
          refine ops_val (ex_move rfl) ?_
          refine ops_test (ex_geq rfl rfl) (fun hp30 => ?_) (fun hp30 => ?_)
          · rw [if_pos (by omega)] at hnum
            refine ops_nil ?_
            refine nR41 ?_
            refine run_cond_true rfl ?_
            refine run_exit ?_
            refine blk_exit ?_
            refine run_region ?_
            refine ops_val (ex_add rfl rfl (IntWalk.i64_in _ (by omega))) ?_
            refine ops_val (ex_move rfl) ?_
            refine ops_nil ?_
            refine nR41 ?_
            refine run_nil (rnd_normal ?_)
            exact ⟨b.length - (i + 1), by omega, i + 1, v + cc % 128 * 2 ^ (7 * i), _, _, rfl, (fs (fn (fn (fn (fn (fs (fn (fn (fs (fs (fs (fn (fn (fn (fn (fn (fn (fn (fn (fn (fn (fn (fn (fn (fn (fn (fn (fn (fn (fn (fn (fn (fn (fn (fn (fn (fn (fn (fn (fn (fn f0))))))))))))))))))))))))))))))))))))))))), rfl, by omega, by omega, by omega, place_next (by omega) hv, hnum, rfl⟩
          · rw [if_neg (by omega)] at hnum
            refine ops_nil ?_
            refine nR41 ?_
            refine run_cond_false rfl ?_
            refine run_skip ?_
            refine run_seq ?_
            refine run_seq ?_
            refine run_region ?_
            refine ops_val (ex_move rfl) ?_
            refine ops_test (ex_eql rfl rfl) (fun hp32 => ?_) (fun hp32 => ?_)
            · skip
              refine ops_val (ex_move rfl) ?_
              refine nO41 ?_
              refine ops_yes rfl ?_
              refine ops_val (ex_move rfl) ?_
              refine ops_yes rfl ?_
              refine ops_test (ex_gtr rfl rfl) (fun hp35 => ?_) (fun hp35 => ?_)
              · rw [if_pos ⟨by omega, by omega⟩] at hnum
                refine ops_val (ex_pick_t rfl rfl) ?_
                refine ops_nil ?_
                refine nR41 ?_
                refine run_cond_true rfl ?_
                refine run_seq ?_
                refine run_region ?_
                refine ops_val (ex_assign rfl) ?_
                refine ops_val (ex_assign rfl) ?_
                refine ops_val (ex_assign rfl) ?_
                refine ops_nil ?_
                refine nR41 ?_
                refine run_ret ?_
                refine blk_ret ?_
                refine rnd_ret ?_
                refine blk_ret ?_
                refine fin_ret3 rfl rfl rfl rfl ?_
                rw [hnum]
                exact ⟨rfl, rfl⟩
              · rw [if_neg (by omega)] at hnum
                refine ops_val (ex_pick_t rfl rfl) ?_
                refine ops_nil ?_
                refine nR41 ?_
                refine run_cond_false rfl ?_
                refine run_skip ?_
                refine run_seq ?_
                refine run_region ?_
                refine ops_val (ex_move rfl) ?_
                refine ops_val (ex_move rfl) ?_
                refine ops_val (ex_add rfl rfl (IntWalk.i64_in _ (by omega))) ?_
                refine ops_val (ex_assign rfl) ?_
                refine nO41 ?_
                refine ops_val (ex_assign rfl) ?_
                refine ops_val (ex_assign rfl) ?_
                refine ops_nil ?_
                refine nR41 ?_
                refine run_ret ?_
                refine blk_ret ?_
                refine rnd_ret ?_
                refine blk_ret ?_
                refine fin_ret3 rfl rfl rfl rfl ?_
                rw [hnum]
                exact ⟨rfl, rfl⟩
            · rw [if_neg (by omega)] at hnum
              refine ops_val (ex_move rfl) ?_
              refine nO41 ?_
              refine ops_no rfl ?_
              refine ops_no rfl ?_
              refine ops_val (ex_pick_f rfl rfl) ?_
              refine ops_nil ?_
              refine nR41 ?_
              refine run_cond_false rfl ?_
              refine run_skip ?_
              refine run_seq ?_
              refine run_region ?_
              refine ops_val (ex_move rfl) ?_
              refine ops_val (ex_move rfl) ?_
              refine ops_val (ex_add rfl rfl (IntWalk.i64_in _ (by omega))) ?_
              refine ops_val (ex_assign rfl) ?_
              refine nO41 ?_
              refine ops_val (ex_assign rfl) ?_
              refine ops_val (ex_assign rfl) ?_
              refine ops_nil ?_
              refine nR41 ?_
              refine run_ret ?_
              refine blk_ret ?_
              refine rnd_ret ?_
              refine blk_ret ?_
              refine fin_ret3 rfl rfl rfl rfl ?_
              rw [hnum]
              exact ⟨rfl, rfl⟩
      · have h9 : i ≠ 9 := by omega
        rw [if_neg (by omega)] at hnum
        refine ops_val (ex_move rfl) ?_
        refine nO41 ?_
        refine ops_no rfl ?_
        refine ops_no rfl ?_
        refine ops_val (ex_pick_f rfl rfl) ?_
        refine ops_nil ?_
        refine nR41 ?_
        refine run_cond_false rfl ?_
        refine run_skip ?_
        refine run_seq ?_
        refine run_region ?_
        refine ops_val (ex_move rfl) ?_
        refine ops_val (ex_move rfl) ?_
        refine ops_val (ex_and rfl rfl (and127 cc hc)) ?_
        refine ops_val (ex_conv Tryz.underlying136 Tryz.underlying5 rfl (IntWalk.u64_in _ (by omega))) ?_
        refine nO41 ?_
        refine ops_val (ex_move rfl) ?_
        refine ops_val (ex_mul rfl rfl (IntWalk.i64_in _ (by omega))) ?_
        refine ops_val (ex_shl rfl rfl (by omega) (shl7 (by omega) (by omega) (by omega))) ?_
        refine ops_val (ex_or rfl rfl (or_place (by omega) (by omega) (by omega) hv)) ?_
        refine nO41 ?_
        refine ops_val (ex_assign rfl) ?_
        refine ops_nil ?_
        refine nR41 ?_
        refine run_seq ?_
        refine run_seq ?_
        refine run_region ?_
        refine ops_val (ex_move rfl) ?_
        refine ops_test (ex_geq rfl rfl) (fun hp30 => ?_) (fun hp30 => ?_)
        · rw [if_pos (by omega)] at hnum
          refine ops_nil ?_
          refine nR41 ?_
          refine run_cond_true rfl ?_
          refine run_exit ?_
          refine blk_exit ?_
          refine run_region ?_
          refine ops_val (ex_add rfl rfl (IntWalk.i64_in _ (by omega))) ?_
          refine ops_val (ex_move rfl) ?_
          refine ops_nil ?_
          refine nR41 ?_
          refine run_nil (rnd_normal ?_)
          exact ⟨b.length - (i + 1), by omega, i + 1, v + cc % 128 * 2 ^ (7 * i), _, _, rfl, (fs (fn (fn (fn (fn (fs (fn (fn (fs (fs (fs (fn (fn (fn (fn (fn (fn (fn (fn (fn (fn (fn (fn (fn (fn (fn (fn (fn (fn (fn (fn (fn (fn (fn (fn (fn (fn (fn (fn (fn (fn f0))))))))))))))))))))))))))))))))))))))))), rfl, by omega, by omega, by omega, place_next (by omega) hv, hnum, rfl⟩
        · rw [if_neg (by omega)] at hnum
          refine ops_nil ?_
          refine nR41 ?_
          refine run_cond_false rfl ?_
          refine run_skip ?_
          refine run_seq ?_
          refine run_seq ?_
          refine run_region ?_
          refine ops_val (ex_move rfl) ?_
          refine ops_test (ex_eql rfl rfl) (fun hp32 => ?_) (fun hp32 => ?_)
          · skip
            refine ops_val (ex_move rfl) ?_
            refine nO41 ?_
            refine ops_yes rfl ?_
            refine ops_val (ex_move rfl) ?_
            refine ops_yes rfl ?_
            refine ops_test (ex_gtr rfl rfl) (fun hp35 => ?_) (fun hp35 => ?_)
            · rw [if_pos ⟨by omega, by omega⟩] at hnum
              refine ops_val (ex_pick_t rfl rfl) ?_
              refine ops_nil ?_
              refine nR41 ?_
              refine run_cond_true rfl ?_
              refine run_seq ?_
              refine run_region ?_
              refine ops_val (ex_assign rfl) ?_
              refine ops_val (ex_assign rfl) ?_
              refine ops_val (ex_assign rfl) ?_
              refine ops_nil ?_
              refine nR41 ?_
              refine run_ret ?_
              refine blk_ret ?_
              refine rnd_ret ?_
              refine blk_ret ?_
              refine fin_ret3 rfl rfl rfl rfl ?_
              rw [hnum]
              exact ⟨rfl, rfl⟩
            · rw [if_neg (by omega)] at hnum
              refine ops_val (ex_pick_t rfl rfl) ?_
              refine ops_nil ?_
              refine nR41 ?_
              refine run_cond_false rfl ?_
              refine run_skip ?_
              refine run_seq ?_
              refine run_region ?_
              refine ops_val (ex_move rfl) ?_
              refine ops_val (ex_move rfl) ?_
              refine ops_val (ex_add rfl rfl (IntWalk.i64_in _ (by omega))) ?_
              refine ops_val (ex_assign rfl) ?_
              refine nO41 ?_
              refine ops_val (ex_assign rfl) ?_
              refine ops_val (ex_assign rfl) ?_
              refine ops_nil ?_
              refine nR41 ?_
              refine run_ret ?_
              refine blk_ret ?_
              refine rnd_ret ?_
              refine blk_ret ?_
              refine fin_ret3 rfl rfl rfl rfl ?_
              rw [hnum]
              exact ⟨rfl, rfl⟩
          · rw [if_neg (by omega)] at hnum
            refine ops_val (ex_move rfl) ?_
            refine nO41 ?_
            refine ops_no rfl ?_
            refine ops_no rfl ?_
            refine ops_val (ex_pick_f rfl rfl) ?_
            refine ops_nil ?_
            refine nR41 ?_
            refine run_cond_false rfl ?_
            refine run_skip ?_
            refine run_seq ?_
            refine run_region ?_
            refine ops_val (ex_move rfl) ?_
            refine ops_val (ex_move rfl) ?_
            refine ops_val (ex_add rfl rfl (IntWalk.i64_in _ (by omega))) ?_
            refine ops_val (ex_assign rfl) ?_
            refine nO41 ?_
            refine ops_val (ex_assign rfl) ?_
            refine ops_val (ex_assign rfl) ?_
            refine ops_nil ?_
            refine nR41 ?_
            refine run_ret ?_
            refine blk_ret ?_
            refine rnd_ret ?_
            refine blk_ret ?_
            refine fin_ret3 rfl rfl rfl rfl ?_
            rw [hnum]
            exact ⟨rfl, rfl⟩
    · rw [List.drop_of_length_le (by omega), numGo] at hnum
      refine ops_nil ?_
      refine nR41 ?_
      refine run_seq ?_
      refine run_cond_false rfl ?_
      refine run_exit ?_
      refine rnd_exit ?_
      refine blk_exit ?_
      refine run_seq ?_
      refine run_region ?_
      refine ops_val (ex_assign rfl) ?_
      refine ops_val (ex_assign rfl) ?_
      refine ops_val (ex_assign rfl) ?_
      refine ops_nil ?_
      refine nR41 ?_
      refine run_ret ?_
      refine fin_ret3 rfl rfl rfl rfl ?_
      rw [hnum]
      exact ⟨rfl, rfl⟩
set_option maxRecDepth 100000 in
set_option maxHeartbeats 4000000 in
theorem counted_any (A : Option Addr) (b : List UInt8) (c : Nat) (most : Int) (w0 : World) (hr : Rd w0 A b.length 1 (u8s b)) (hb : b.length ≤ 211106232532992) (hlo : -9223372036854775808 ≤ most) (hhi : most ≤ 9223372036854775807) :
    Does Tryz.prog 95 #[.slice A b.length c, .int .i64 most] w0 (fun r w' => r = .tuple #[.int .i64 (countedOf b most).1, .int .i64 (countedOf b most).2.1, .int .i64 (countedOf b most).2.2] ∧ w' = w0) := by
  have hbd := numOf_bd b
  refine does_of Tryz.func95 Tryz.ntmps95 rfl ?_
  refine nR31 ?_
  have H := Hp.refl w0
  refine run_seq ?_
  refine run_region ?_
  refine ops_val (ex_assign rfl) ?_
  refine ops_val (ex_assign rfl) ?_
  refine ops_val (ex_assign rfl) ?_
  refine ops_nil ?_
  refine nR31 ?_
  refine run_seq ?_
  refine run_region ?_
  refine ops_val (ex_move rfl) ?_
  refine ops_call_eq (ex_call gf108 rfl) (number_any A b c _ hr hb) ?_
  refine ops_val (ex_move rfl) ?_
  refine ops_val (ex_extract rfl rfl) ?_
  refine nO31 ?_
  refine ops_val (ex_extract rfl rfl) ?_
  refine ops_val (ex_extract rfl rfl) ?_
  refine ops_val (ex_assign rfl) ?_
  refine ops_val (ex_assign rfl) ?_
  refine nO31 ?_
  refine ops_val (ex_assign rfl) ?_
  refine ops_nil ?_
  refine nR31 ?_
  refine run_seq ?_
  refine run_seq ?_
  refine run_region ?_
  refine ops_val (ex_move rfl) ?_
  refine ops_test (ex_eql rfl rfl) (fun hp17 => ?_) (fun hp17 => ?_)
  · have h0 : (numOf b).2.2 = 0 := by omega
    refine ops_val (ex_move rfl) ?_
    refine nO31 ?_
    refine ops_yes rfl ?_
    refine ops_val (ex_move rfl) ?_
    refine ops_yes rfl ?_
    refine ops_val (ex_move rfl) ?_
    refine nO31 ?_
    refine ops_yes rfl ?_
    refine ops_val (ex_max rfl rfl) ?_
    refine ops_yes rfl ?_
    refine ops_val (ex_conv Tryz.underlying136 Tryz.underlying3 rfl (IntWalk.u64_in _ (by omega))) ?_
    refine nO31 ?_
    refine ops_yes rfl ?_
    refine ops_test (ex_gtr rfl rfl) (fun hp23 => ?_) (fun hp23 => ?_)
    · skip
      refine ops_val (ex_pick_t rfl rfl) ?_
      refine ops_nil ?_
      refine nR31 ?_
      refine run_cond_true rfl ?_
      refine run_region ?_
      refine ops_val (ex_assign rfl) ?_
      refine ops_nil ?_
      refine nR31 ?_
      refine run_seq ?_
      refine run_seq ?_
      refine run_region ?_
      refine ops_val (ex_move rfl) ?_
      refine ops_true (ex_neq rfl rfl) (by omega) ?_
      refine ops_nil ?_
      refine nR31 ?_
      refine run_cond_true rfl ?_
      refine run_seq ?_
      refine run_region ?_
      refine ops_val (ex_move rfl) ?_
      refine ops_val (ex_assign rfl) ?_
      refine ops_val (ex_assign rfl) ?_
      refine ops_val (ex_assign rfl) ?_
      refine ops_nil ?_
      refine nR31 ?_
      refine run_ret ?_
      refine fin_ret3 rfl rfl rfl rfl ?_
      refine ⟨?_, rfl⟩
      rw [countedOf_l h0 hp23]
      rfl
    · skip
      refine ops_val (ex_pick_t rfl rfl) ?_
      refine ops_nil ?_
      refine nR31 ?_
      refine run_cond_false rfl ?_
      refine run_skip ?_
      refine run_seq ?_
      refine run_seq ?_
      refine run_region ?_
      refine ops_val (ex_move rfl) ?_
      refine ops_false (ex_neq rfl rfl) (by omega) ?_
      refine ops_nil ?_
      refine nR31 ?_
      refine run_cond_false rfl ?_
      refine run_skip ?_
      refine run_seq ?_
      refine run_region ?_
      refine ops_val (ex_move rfl) ?_
      refine ops_val (ex_conv Tryz.underlying3 Tryz.underlying136 rfl (IntWalk.i64_in _ (by omega))) ?_
      refine ops_val (ex_move rfl) ?_
      refine ops_val (ex_assign rfl) ?_
      refine nO31 ?_
      refine ops_val (ex_assign rfl) ?_
      refine ops_val (ex_assign rfl) ?_
      refine ops_nil ?_
      refine nR31 ?_
      refine run_ret ?_
      refine fin_ret3 rfl rfl rfl rfl ?_
      refine ⟨?_, rfl⟩
      rw [countedOf_t h0 hp23]
      rfl
  · have h0 : (numOf b).2.2 ≠ 0 := by omega
    refine ops_val (ex_move rfl) ?_
    refine nO31 ?_
    refine ops_no rfl ?_
    refine ops_no rfl ?_
    refine nO31 ?_
    refine ops_no rfl ?_
    refine ops_no rfl ?_
    refine nO31 ?_
    refine ops_no rfl ?_
    refine ops_val (ex_pick_f rfl rfl) ?_
    refine ops_nil ?_
    refine nR31 ?_
    refine run_cond_false rfl ?_
    refine run_skip ?_
    refine run_seq ?_
    refine run_seq ?_
    refine run_region ?_
    refine ops_val (ex_move rfl) ?_
    refine ops_true (ex_neq rfl rfl) (by omega) ?_
    refine ops_nil ?_
    refine nR31 ?_
    refine run_cond_true rfl ?_
    refine run_seq ?_
    refine run_region ?_
    refine ops_val (ex_move rfl) ?_
    refine ops_val (ex_assign rfl) ?_
    refine ops_val (ex_assign rfl) ?_
    refine ops_val (ex_assign rfl) ?_
    refine ops_nil ?_
    refine nR31 ?_
    refine run_ret ?_
    refine fin_ret3 rfl rfl rfl rfl ?_
    refine ⟨?_, rfl⟩
    rw [countedOf_f h0]
    rfl
end Go.Proofs.YtoeobicpdeklaaaGreat
