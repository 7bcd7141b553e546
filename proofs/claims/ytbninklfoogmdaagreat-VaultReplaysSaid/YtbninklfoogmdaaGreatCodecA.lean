/- Walks of layer 2, printed by wip/gen/codec.py. -/
import Derived.Test.YtbninklfoogmdaaGreatNrm
import Derived.Test.YtbninklfoogmdaaGreatTypes
import Derived.Test.YtbninklfoogmdaaGreatCodecFns
namespace Go.Proofs.YtbninklfoogmdaaGreat
open Go Go.RowKit
set_option linter.unusedVariables false
attribute [local irreducible] Still Ops Does Cd
set_option maxRecDepth 100000 in
set_option maxHeartbeats 4000000 in
theorem clone_any (A : Option Addr) (b : List UInt8) (c : Nat) (w0 : World) (hr : Rd w0 A b.length 1 (u8s b)) (hb : b.length ≤ 211106232532992) :
    Does Tryz.prog 51 #[.slice A b.length c] w0 (fun r w' => Own w0 w' r (b)) := by
  refine does_of Tryz.func51 Tryz.ntmps51 rfl ?_
  change Run _ _ _ _ [.slice A b.length c, undef, undef, undef, undef, undef, undef, undef] _
  have H := Hp.refl w0
  refine run_seq ?_
  refine run_region ?_
  refine ops_val (ex_assign rfl) ?_
  refine ops_nil ?_
  change Run _ _ _ _ [_, _, _, _, _, _, _, _] _
  refine run_seq ?_
  refine run_seq ?_
  refine run_region ?_
  refine ops_val (ex_move rfl) ?_
  refine ops_test (ex_eql_nil_slice Tryz.underlying37 rfl) (fun hp4 => ?_) (fun hp4 => ?_)
  · skip
    refine ops_nil ?_
    change Run _ _ _ _ [_, _, _, _, _, _, _, _] _
    refine run_cond_true rfl ?_
    refine run_seq ?_
    refine run_region ?_
    refine ops_val (ex_assign rfl) ?_
    refine ops_nil ?_
    change Run _ _ _ _ [_, _, _, _, _, _, _, _] _
    refine run_ret ?_
    refine fin_ret1 rfl rfl ?_
    have hb : b = [] := List.eq_nil_of_length_eq_zero (hr.nil hp4)
    subst hb
    exact ⟨none, 0, [], rfl, Nat.le_refl _, by simp, fun _ => rfl, by have := H.nil 5; exact this⟩
  · skip
    refine ops_nil ?_
    change Run _ _ _ _ [_, _, _, _, _, _, _, _] _
    refine run_cond_false rfl ?_
    refine run_skip ?_
    refine run_seq ?_
    refine run_region ?_
    refine ops_buildSlice Tryz.underlying37 ty5 H rfl (by decide) rfl ?_
    intro w1 g1 H1 hg1
    refine ops_val (ex_move rfl) ?_
    refine ops_append Tryz.underlying37 ty5 (by decide) H1 0 (g := some g1) (xs := []) (sp := []) rfl rfl rfl (by decide) (by decide) (by simp) rfl (hr.to0 H1) (u8s_one' b) (by omega) (by omega) (by decide) ?_
    intro w2 g3 cap3 sp3 H2 hcap3 hmc3 hg3
    refine ops_val (ex_assign rfl) ?_
    refine ops_nil ?_
    change Run _ _ _ _ [_, _, _, _, _, _, _, _] _
    refine run_ret ?_
    refine fin_ret1 rfl rfl ?_
    rw [Nat.zero_add] at hmc3
    refine ⟨g3, cap3, sp3, ?_, hmc3, hcap3, hg3, H2.pick [0] (by decide)⟩
    rw [Nat.zero_add]
set_option maxRecDepth 100000 in
set_option maxHeartbeats 4000000 in
theorem plain_any (A B : Option Addr) (a b : List UInt8) (c d : Nat) (w0 : World) (hra : Rd w0 A a.length 1 (u8s a)) (hrb : Rd w0 B b.length 1 (u8s b)) (ha : a.length ≤ 211106232532992) (hb : b.length ≤ 211106232532992) :
    Does Tryz.prog 72 #[.slice A a.length c, .slice B b.length d] w0 (fun r w' => r = .bool (decide (a = b)) ∧ Hp w0 w' [] []) := by
  refine does_of Tryz.func72 Tryz.ntmps72 rfl ?_
  refine nR26 ?_
  have H := Hp.refl w0
  refine run_seq ?_
  refine run_region ?_
  refine ops_val (ex_assign rfl) ?_
  refine ops_nil ?_
  refine nR26 ?_
  refine run_seq ?_
  refine run_seq ?_
  refine run_region ?_
  refine ops_val (ex_move rfl) ?_
  refine ops_val (ex_len_slice Tryz.underlying37 rfl) ?_
  refine ops_val (ex_move rfl) ?_
  refine ops_val (ex_len_slice Tryz.underlying37 rfl) ?_
  refine nO26 ?_
  refine ops_test (ex_neq rfl rfl) (fun hp10 => ?_) (fun hp10 => ?_)
  · skip
    refine ops_nil ?_
    refine nR26 ?_
    refine run_cond_true rfl ?_
    refine run_seq ?_
    refine run_region ?_
    refine ops_val (ex_assign rfl) ?_
    refine ops_nil ?_
    refine nR26 ?_
    refine run_ret ?_
    refine fin_ret1 rfl rfl ?_
    exact ⟨by rw [decide_eq_false (by rintro rfl; omega)], H⟩
  · have hlen : a.length = b.length := by omega
    refine ops_nil ?_
    refine nR26 ?_
    refine run_cond_false rfl ?_
    refine run_skip ?_
    refine run_seq ?_
    refine run_seq ?_
    refine run_region ?_
    refine ops_val (ex_assign rfl) ?_
    refine ops_nil ?_
    refine nR26 ?_
    refine run_block ?_
    refine run_loop (fun nQ lQ w => ∃ (i : Nat) (y : Int), a.length - i = nQ ∧ Fits [some (.slice A a.length c), some (.slice B b.length d), none, none, none, some (.int .i64 y), some (.slice A a.length c), some (.int .i64 a.length), some (.slice B b.length d), some (.int .i64 b.length), some (.bool false), none, none, none, none, none, none, none, none, none, none, none, none, none, none, none] lQ ∧ y = i ∧ i ≤ a.length ∧ a.take i = b.take i ∧ Hp w0 w [] []) (a.length) ?_ ?_
    · exact ⟨0, _, rfl, (fs (fs (fn (fn (fn (fs (fs (fs (fs (fs (fs (fn (fn (fn (fn (fn (fn (fn (fn (fn (fn (fn (fn (fn (fn (fn f0)))))))))))))))))))))))))), rfl, Nat.zero_le _, rfl, H⟩
    · rintro nQ lQ w1 ⟨i, y, rfl, hfit, rfl, hi, hpre, H1⟩
      obtain ⟨j, rfl⟩ := hfit.open
      refine nR26 ?_
      clear hfit
      refine run_seq ?_
      refine run_seq ?_
      refine run_region ?_
      refine ops_val (ex_move rfl) ?_
      refine ops_val (ex_move rfl) ?_
      refine ops_val (ex_len_slice Tryz.underlying37 rfl) ?_
      refine ops_test (ex_lss rfl rfl) (fun hp14 => ?_) (fun hp14 => ?_)
      · obtain ⟨x, rfl⟩ := hra.some_ (by omega)
        obtain ⟨z, rfl⟩ := hrb.some_ (by omega)
        have hia : i < a.length := by omega
        have hib : i < b.length := by omega
        refine ops_nil ?_
        refine nR26 ?_
        refine run_cond_true rfl ?_
        refine run_skip ?_
        refine run_seq ?_
        refine run_block ?_
        refine run_seq ?_
        refine run_still mixed (by kernel_rfl) ?_
        rintro w2 hw2
        have H2 := Hp.drew H1; rw [← hw2] at H2
        refine still_val (ex_move rfl) ?_
        refine still_val (ex_move rfl) ?_
        refine still_val (ex_idx Tryz.underlying37 ty5 rfl rfl rfl hia (Nat.mul_one _)) ?_
        refine still_val (ex_load ty5 rfl ((hra.to0 H2).cells x rfl i _ (u8s_get hia))) ?_
        refine nS26 ?_
        refine still_val (ex_move rfl) ?_
        refine still_val (ex_move rfl) ?_
        refine still_val (ex_idx Tryz.underlying37 ty5 rfl rfl rfl hib (Nat.mul_one _)) ?_
        refine still_val (ex_load ty5 rfl ((hrb.to0 H2).cells z rfl i _ (u8s_get hib))) ?_
        refine nS26 ?_
        refine still_test (ex_neq rfl rfl) (fun hp25 => ?_) (fun hp25 => ?_)
        · skip
          refine still_nil ?_
          refine nR26 ?_
          refine run_cond_true rfl ?_
          refine run_seq ?_
          refine run_region ?_
          refine ops_val (ex_assign rfl) ?_
          refine ops_nil ?_
          refine nR26 ?_
          refine run_ret ?_
          refine blk_ret ?_
          refine rnd_ret ?_
          refine blk_ret ?_
          refine fin_ret1 rfl rfl ?_
          exact ⟨by rw [decide_eq_false (by rintro rfl; omega)], H2⟩
        · skip
          refine still_nil ?_
          refine nR26 ?_
          refine run_cond_false rfl ?_
          refine run_skip ?_
          refine run_nil (blk_normal ?_)
          refine run_region ?_
          refine ops_val (ex_move rfl) ?_
          refine ops_val (ex_add rfl rfl (IntWalk.i64_in _ (by omega))) ?_
          refine ops_val (ex_assign rfl) ?_
          refine ops_nil ?_
          refine nR26 ?_
          refine run_nil (rnd_normal ?_)
          exact ⟨a.length - (i + 1), by omega, i + 1, _, rfl, (fs (fs (fn (fn (fn (fs (fs (fs (fs (fs (fs (fn (fn (fn (fn (fn (fn (fn (fn (fn (fn (fn (fn (fn (fn (fn f0)))))))))))))))))))))))))), by omega, by omega, by rw [← List.take_append_getElem hia, ← List.take_append_getElem hib, hpre, UInt8.toNat_inj.1 (show a[i].toNat = b[i].toNat by omega)], H2⟩
      · skip
        refine ops_nil ?_
        refine nR26 ?_
        refine run_cond_false rfl ?_
        refine run_exit ?_
        refine rnd_exit ?_
        refine blk_exit ?_
        refine run_seq ?_
        refine run_region ?_
        refine ops_val (ex_assign rfl) ?_
        refine ops_nil ?_
        refine nR26 ?_
        refine run_ret ?_
        refine fin_ret1 rfl rfl ?_
        exact ⟨by rw [decide_eq_true (by rw [← List.take_of_length_le (l := a) (i := i) (by omega), hpre, List.take_of_length_le (by omega)])], H1⟩
set_option maxRecDepth 100000 in
set_option maxHeartbeats 4000000 in
theorem bytes_any (A B : Option Addr) (a b : List UInt8) (c d : Nat) (w0 : World) (hra : Rd w0 A a.length 1 (u8s a)) (hrb : Rd w0 B b.length 1 (u8s b)) (ha : a.length ≤ 211106232532992) (hb : b.length ≤ 211106232532992) :
    Does Tryz.prog 49 #[.slice A a.length c, .slice B b.length d] w0 (fun r w' => r = .bool (decide (a = b)) ∧ Hp w0 w' [] []) := by
  refine does_of Tryz.func49 Tryz.ntmps49 rfl ?_
  change Run _ _ _ _ [.slice A a.length c, .slice B b.length d, undef, undef, undef, undef, undef, undef] _
  have H := Hp.refl w0
  refine run_seq ?_
  refine run_region ?_
  refine ops_val (ex_assign rfl) ?_
  refine ops_nil ?_
  change Run _ _ _ _ [_, _, _, _, _, _, _, _] _
  refine run_seq ?_
  refine run_region ?_
  refine ops_val (ex_move rfl) ?_
  refine ops_val (ex_move rfl) ?_
  refine ops_call_val (ex_call gf72 rfl) (plain_any A B a b c d _ (hra.to0 H) (hrb.to0 H) ha hb) ?_
  intro w1 Hc
  have H1 := H.call0 Hc
  refine ops_val (ex_assign rfl) ?_
  refine ops_nil ?_
  change Run _ _ _ _ [_, _, _, _, _, _, _, _] _
  refine run_ret ?_
  refine fin_ret1 rfl rfl ?_
  exact ⟨rfl, H1⟩
end Go.Proofs.YtbninklfoogmdaaGreat
