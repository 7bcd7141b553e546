/- Walks of layer 2, printed by wip/gen/codec.py. -/
import Derived.Test.YtoeobicpdeklaaaGreatNrm
import Derived.Test.YtoeobicpdeklaaaGreatBig
import Derived.Test.YtoeobicpdeklaaaGreatWireV1
import Derived.Test.YtoeobicpdeklaaaGreatWireQ2
import Derived.Test.YtoeobicpdeklaaaGreatLst
namespace Go.Proofs.YtoeobicpdeklaaaGreat
open Go Go.RowKit
set_option linter.unusedVariables false
attribute [local irreducible] Still Ops Does Cd
theorem lay141 : lay Tryz.prog 6 141 [.int, .int, .int, .int] = true := by kernel_rfl
theorem agg141 : aggT Tryz.prog 141 = true := by kernel_rfl
theorem eqg141 : Tryz.prog.eqGuardType Tryz.prog.depth 141 = false := by kernel_rfl
set_option maxRecDepth 100000 in
set_option maxHeartbeats 4000000 in
theorem plainholder_any (B1 B2 : Option Addr) (k1 k2 : Nat) (xs : List thholder.X) (ok1 ok2 : Nat → Prop) (w0 : World) (hM1 : (Th.many thholder false).M w0 ok1 xs [.slice B1 xs.length k1]) (hM2 : (Th.many thholder false).M w0 ok2 xs [.slice B2 xs.length k2]) :
    Does Tryz.prog 89 #[.slice B1 xs.length k1, .slice B2 xs.length k2] w0 (fun r w' => r = .bool true ∧ Hp w0 w' [] []) := by
  refine does_of Tryz.func89 Tryz.ntmps89 rfl ?_
  refine nR26 ?_
  have H := Hp.refl w0
  obtain ⟨D1, kk1, cl1, heq1, hz1, hrd1, _, _, hel1⟩ := hM1
  simp only [List.cons.injEq, Value.slice.injEq, and_true, true_and] at heq1
  obtain ⟨rfl, rfl⟩ := heq1
  obtain ⟨D2, kk2, cl2, heq2, hz2, hrd2, _, _, hel2⟩ := hM2
  simp only [List.cons.injEq, Value.slice.injEq, and_true, true_and] at heq2
  obtain ⟨rfl, rfl⟩ := heq2
  have hlm := hz1.1
  refine run_seq ?_
  refine run_region ?_
  refine ops_val (ex_assign rfl) ?_
  refine ops_nil ?_
  refine nR26 ?_
  refine run_seq ?_
  refine run_seq ?_
  refine run_region ?_
  refine ops_val (ex_move rfl) ?_
  refine ops_val (ex_len_slice Tryz.underlying90 rfl) ?_
  refine ops_val (ex_move rfl) ?_
  refine ops_val (ex_len_slice Tryz.underlying90 rfl) ?_
  refine nO26 ?_
  refine ops_false (ex_neq rfl rfl) (by simp) ?_
  refine ops_nil ?_
  refine nR26 ?_
  refine run_cond_false rfl ?_
  refine run_skip ?_
  refine run_seq ?_
  refine run_seq ?_
  refine run_region ?_
  refine ops_val (ex_assign rfl) ?_
  refine ops_nil ?_
  refine nR26 ?_
  refine run_block ?_
  refine run_loop (fun n l w => ∃ (q : Nat) (y : Int), xs.length - q = n ∧ Fits [some (.slice B1 xs.length k1), some (.slice B2 xs.length k2), none, none, none, some (.int .i64 y), none, none, none, none, none, none, none, none, none, none, none, none, none, none, none, none, none, none, none, none] l ∧ y = q ∧ q ≤ xs.length ∧ Hp w0 w [] []) (xs.length) ?_ ?_
  · exact ⟨0, _, rfl, (fs (fs (fn (fn (fn (fs (fn (fn (fn (fn (fn (fn (fn (fn (fn (fn (fn (fn (fn (fn (fn (fn (fn (fn (fn (fn f0)))))))))))))))))))))))))), rfl, Nat.zero_le _, H⟩
  · rintro n l w1 ⟨q, y, rfl, hfit, rfl, hq, H1⟩
    obtain ⟨j, rfl⟩ := hfit.open
    refine nR26 ?_
    clear hfit
    refine run_seq ?_
    refine run_seq ?_
    refine run_region ?_
    refine ops_val (ex_move rfl) ?_
    refine ops_val (ex_move rfl) ?_
    refine ops_val (ex_len_slice Tryz.underlying90 rfl) ?_
    refine ops_test (ex_lss rfl rfl) (fun hp14 => ?_) (fun hp14 => ?_)
    · have hql : q < xs.length := by omega
      obtain ⟨p1, hp1⟩ := hrd1.some_ (by omega)
      subst hp1
      obtain ⟨p2, hp2⟩ := hrd2.some_ (by omega)
      subst hp2
      have e12 := plain_one (hel1 q hql) (hel2 q hql) rfl
      have hln : ((cl1.drop (q * 4)).take 4).length = 4 := elem_len hrd1 hql
      refine ops_nil ?_
      refine nR26 ?_
      refine run_cond_true rfl ?_
      refine run_skip ?_
      refine run_seq ?_
      refine run_block ?_
      refine run_seq ?_
      refine run_still mixed (by kernel_rfl) ?_
      rintro w2 hw2
      have H2 := Hp.drew H1; rw [← hw2] at H2
      refine still_val (ex_move rfl) ?_
      refine still_val (ex_move rfl) ?_
      refine still_val (ex_idx Tryz.underlying90 ty141 rfl rfl rfl hql rfl) ?_
      refine still_val (ex_loadN ty141 rfl (vs := ((cl1.drop (q * 4)).take 4)) hln ((elem_cl (S := []) hrd1 hql (by simp)).to H2).cell) ?_
      refine nS26 ?_
      refine still_val (ex_move rfl) ?_
      refine still_val (ex_move rfl) ?_
      refine still_val (ex_idx Tryz.underlying90 ty141 rfl rfl rfl hql rfl) ?_
      refine still_val (ex_loadN ty141 rfl (vs := ((cl1.drop (q * 4)).take 4)) hln (by rw [show ((cl1.drop (q * 4)).take 4) = ((cl2.drop (q * 4)).take 4) from e12.symm]; exact ((elem_cl (S := []) hrd2 hql (by simp)).to H2).cell)) ?_
      refine nS26 ?_
      refine still_val (ex_neq_same lay141 (by decide) rfl agg141 eqg141 (hel1 q hql) rfl rfl) ?_
      refine still_nil ?_
      refine nR26 ?_
      refine run_cond_false rfl ?_
      refine run_skip ?_
      refine run_nil (blk_normal ?_)
      refine run_region ?_
      refine ops_val (ex_move rfl) ?_
      refine ops_val (ex_add rfl rfl (IntWalk.i64_in _ (by omega))) ?_
      refine ops_val (ex_assign rfl) ?_
      refine ops_nil ?_
      refine nR26 ?_
      refine run_nil (rnd_normal ?_)
      exact ⟨xs.length - (q + 1), by omega, q + 1, _, rfl, (fs (fs (fn (fn (fn (fs (fn (fn (fn (fn (fn (fn (fn (fn (fn (fn (fn (fn (fn (fn (fn (fn (fn (fn (fn (fn f0)))))))))))))))))))))))))), rfl, by omega, H2⟩
    · skip
      refine ops_nil ?_
      refine nR26 ?_
      refine run_cond_false rfl ?_
      refine run_exit ?_
      refine rnd_exit ?_
      refine blk_exit ?_
      refine run_seq ?_
      refine run_region ?_
      refine ops_val (ex_assign rfl) ?_
      refine ops_nil ?_
      refine nR26 ?_
      refine run_ret ?_
      refine fin_ret1 rfl rfl ?_
      exact ⟨rfl, H1⟩
theorem lay68 : lay Tryz.prog 6 68 [.int, .int, .flag, .int, .int, .int, .int] = true := by kernel_rfl
theorem agg68 : aggT Tryz.prog 68 = true := by kernel_rfl
theorem eqg68 : Tryz.prog.eqGuardType Tryz.prog.depth 68 = false := by kernel_rfl
set_option maxRecDepth 100000 in
set_option maxHeartbeats 4000000 in
theorem plainmark_any (B1 B2 : Option Addr) (k1 k2 : Nat) (xs : List thmark.X) (ok1 ok2 : Nat → Prop) (w0 : World) (hM1 : (Th.many thmark false).M w0 ok1 xs [.slice B1 xs.length k1]) (hM2 : (Th.many thmark false).M w0 ok2 xs [.slice B2 xs.length k2]) :
    Does Tryz.prog 25 #[.slice B1 xs.length k1, .slice B2 xs.length k2] w0 (fun r w' => r = .bool true ∧ Hp w0 w' [] []) := by
  refine does_of Tryz.func25 Tryz.ntmps25 rfl ?_
  refine nR26 ?_
  have H := Hp.refl w0
  obtain ⟨D1, kk1, cl1, heq1, hz1, hrd1, _, _, hel1⟩ := hM1
  simp only [List.cons.injEq, Value.slice.injEq, and_true, true_and] at heq1
  obtain ⟨rfl, rfl⟩ := heq1
  obtain ⟨D2, kk2, cl2, heq2, hz2, hrd2, _, _, hel2⟩ := hM2
  simp only [List.cons.injEq, Value.slice.injEq, and_true, true_and] at heq2
  obtain ⟨rfl, rfl⟩ := heq2
  have hlm := hz1.1
  refine run_seq ?_
  refine run_region ?_
  refine ops_val (ex_assign rfl) ?_
  refine ops_nil ?_
  refine nR26 ?_
  refine run_seq ?_
  refine run_seq ?_
  refine run_region ?_
  refine ops_val (ex_move rfl) ?_
  refine ops_val (ex_len_slice Tryz.underlying23 rfl) ?_
  refine ops_val (ex_move rfl) ?_
  refine ops_val (ex_len_slice Tryz.underlying23 rfl) ?_
  refine nO26 ?_
  refine ops_false (ex_neq rfl rfl) (by simp) ?_
  refine ops_nil ?_
  refine nR26 ?_
  refine run_cond_false rfl ?_
  refine run_skip ?_
  refine run_seq ?_
  refine run_seq ?_
  refine run_region ?_
  refine ops_val (ex_assign rfl) ?_
  refine ops_nil ?_
  refine nR26 ?_
  refine run_block ?_
  refine run_loop (fun n l w => ∃ (q : Nat) (y : Int), xs.length - q = n ∧ Fits [some (.slice B1 xs.length k1), some (.slice B2 xs.length k2), none, none, none, some (.int .i64 y), none, none, none, none, none, none, none, none, none, none, none, none, none, none, none, none, none, none, none, none] l ∧ y = q ∧ q ≤ xs.length ∧ Hp w0 w [] []) (xs.length) ?_ ?_
  · exact ⟨0, _, rfl, (fs (fs (fn (fn (fn (fs (fn (fn (fn (fn (fn (fn (fn (fn (fn (fn (fn (fn (fn (fn (fn (fn (fn (fn (fn (fn f0)))))))))))))))))))))))))), rfl, Nat.zero_le _, H⟩
  · rintro n l w1 ⟨q, y, rfl, hfit, rfl, hq, H1⟩
    obtain ⟨j, rfl⟩ := hfit.open
    refine nR26 ?_
    clear hfit
    refine run_seq ?_
    refine run_seq ?_
    refine run_region ?_
    refine ops_val (ex_move rfl) ?_
    refine ops_val (ex_move rfl) ?_
    refine ops_val (ex_len_slice Tryz.underlying23 rfl) ?_
    refine ops_test (ex_lss rfl rfl) (fun hp14 => ?_) (fun hp14 => ?_)
    · have hql : q < xs.length := by omega
      obtain ⟨p1, hp1⟩ := hrd1.some_ (by omega)
      subst hp1
      obtain ⟨p2, hp2⟩ := hrd2.some_ (by omega)
      subst hp2
      have e12 := plain_one (hel1 q hql) (hel2 q hql) rfl
      have hln : ((cl1.drop (q * 7)).take 7).length = 7 := elem_len hrd1 hql
      refine ops_nil ?_
      refine nR26 ?_
      refine run_cond_true rfl ?_
      refine run_skip ?_
      refine run_seq ?_
      refine run_block ?_
      refine run_seq ?_
      refine run_still mixed (by kernel_rfl) ?_
      rintro w2 hw2
      have H2 := Hp.drew H1; rw [← hw2] at H2
      refine still_val (ex_move rfl) ?_
      refine still_val (ex_move rfl) ?_
      refine still_val (ex_idx Tryz.underlying23 ty68 rfl rfl rfl hql rfl) ?_
      refine still_val (ex_loadN ty68 rfl (vs := ((cl1.drop (q * 7)).take 7)) hln ((elem_cl (S := []) hrd1 hql (by simp)).to H2).cell) ?_
      refine nS26 ?_
      refine still_val (ex_move rfl) ?_
      refine still_val (ex_move rfl) ?_
      refine still_val (ex_idx Tryz.underlying23 ty68 rfl rfl rfl hql rfl) ?_
      refine still_val (ex_loadN ty68 rfl (vs := ((cl1.drop (q * 7)).take 7)) hln (by rw [show ((cl1.drop (q * 7)).take 7) = ((cl2.drop (q * 7)).take 7) from e12.symm]; exact ((elem_cl (S := []) hrd2 hql (by simp)).to H2).cell)) ?_
      refine nS26 ?_
      refine still_val (ex_neq_same lay68 (by decide) rfl agg68 eqg68 (hel1 q hql) rfl rfl) ?_
      refine still_nil ?_
      refine nR26 ?_
      refine run_cond_false rfl ?_
      refine run_skip ?_
      refine run_nil (blk_normal ?_)
      refine run_region ?_
      refine ops_val (ex_move rfl) ?_
      refine ops_val (ex_add rfl rfl (IntWalk.i64_in _ (by omega))) ?_
      refine ops_val (ex_assign rfl) ?_
      refine ops_nil ?_
      refine nR26 ?_
      refine run_nil (rnd_normal ?_)
      exact ⟨xs.length - (q + 1), by omega, q + 1, _, rfl, (fs (fs (fn (fn (fn (fs (fn (fn (fn (fn (fn (fn (fn (fn (fn (fn (fn (fn (fn (fn (fn (fn (fn (fn (fn (fn f0)))))))))))))))))))))))))), rfl, by omega, H2⟩
    · skip
      refine ops_nil ?_
      refine nR26 ?_
      refine run_cond_false rfl ?_
      refine run_exit ?_
      refine rnd_exit ?_
      refine blk_exit ?_
      refine run_seq ?_
      refine run_region ?_
      refine ops_val (ex_assign rfl) ?_
      refine ops_nil ?_
      refine nR26 ?_
      refine run_ret ?_
      refine fin_ret1 rfl rfl ?_
      exact ⟨rfl, H1⟩
theorem lay71 : lay Tryz.prog 6 71 [.int, .int, .int, .int, .int, .int, .text, .text, .int, .int, .int] = true := by kernel_rfl
theorem agg71 : aggT Tryz.prog 71 = true := by kernel_rfl
theorem eqg71 : Tryz.prog.eqGuardType Tryz.prog.depth 71 = false := by kernel_rfl
set_option maxRecDepth 100000 in
set_option maxHeartbeats 4000000 in
theorem plainwait_any (B1 B2 : Option Addr) (k1 k2 : Nat) (xs : List thwait.X) (ok1 ok2 : Nat → Prop) (w0 : World) (hM1 : (Th.many thwait false).M w0 ok1 xs [.slice B1 xs.length k1]) (hM2 : (Th.many thwait false).M w0 ok2 xs [.slice B2 xs.length k2]) :
    Does Tryz.prog 26 #[.slice B1 xs.length k1, .slice B2 xs.length k2] w0 (fun r w' => r = .bool true ∧ Hp w0 w' [] []) := by
  refine does_of Tryz.func26 Tryz.ntmps26 rfl ?_
  refine nR26 ?_
  have H := Hp.refl w0
  obtain ⟨D1, kk1, cl1, heq1, hz1, hrd1, _, _, hel1⟩ := hM1
  simp only [List.cons.injEq, Value.slice.injEq, and_true, true_and] at heq1
  obtain ⟨rfl, rfl⟩ := heq1
  obtain ⟨D2, kk2, cl2, heq2, hz2, hrd2, _, _, hel2⟩ := hM2
  simp only [List.cons.injEq, Value.slice.injEq, and_true, true_and] at heq2
  obtain ⟨rfl, rfl⟩ := heq2
  have hlm := hz1.1
  refine run_seq ?_
  refine run_region ?_
  refine ops_val (ex_assign rfl) ?_
  refine ops_nil ?_
  refine nR26 ?_
  refine run_seq ?_
  refine run_seq ?_
  refine run_region ?_
  refine ops_val (ex_move rfl) ?_
  refine ops_val (ex_len_slice Tryz.underlying24 rfl) ?_
  refine ops_val (ex_move rfl) ?_
  refine ops_val (ex_len_slice Tryz.underlying24 rfl) ?_
  refine nO26 ?_
  refine ops_false (ex_neq rfl rfl) (by simp) ?_
  refine ops_nil ?_
  refine nR26 ?_
  refine run_cond_false rfl ?_
  refine run_skip ?_
  refine run_seq ?_
  refine run_seq ?_
  refine run_region ?_
  refine ops_val (ex_assign rfl) ?_
  refine ops_nil ?_
  refine nR26 ?_
  refine run_block ?_
  refine run_loop (fun n l w => ∃ (q : Nat) (y : Int), xs.length - q = n ∧ Fits [some (.slice B1 xs.length k1), some (.slice B2 xs.length k2), none, none, none, some (.int .i64 y), none, none, none, none, none, none, none, none, none, none, none, none, none, none, none, none, none, none, none, none] l ∧ y = q ∧ q ≤ xs.length ∧ Hp w0 w [] []) (xs.length) ?_ ?_
  · exact ⟨0, _, rfl, (fs (fs (fn (fn (fn (fs (fn (fn (fn (fn (fn (fn (fn (fn (fn (fn (fn (fn (fn (fn (fn (fn (fn (fn (fn (fn f0)))))))))))))))))))))))))), rfl, Nat.zero_le _, H⟩
  · rintro n l w1 ⟨q, y, rfl, hfit, rfl, hq, H1⟩
    obtain ⟨j, rfl⟩ := hfit.open
    refine nR26 ?_
    clear hfit
    refine run_seq ?_
    refine run_seq ?_
    refine run_region ?_
    refine ops_val (ex_move rfl) ?_
    refine ops_val (ex_move rfl) ?_
    refine ops_val (ex_len_slice Tryz.underlying24 rfl) ?_
    refine ops_test (ex_lss rfl rfl) (fun hp14 => ?_) (fun hp14 => ?_)
    · have hql : q < xs.length := by omega
      obtain ⟨p1, hp1⟩ := hrd1.some_ (by omega)
      subst hp1
      obtain ⟨p2, hp2⟩ := hrd2.some_ (by omega)
      subst hp2
      have e12 := plain_one (hel1 q hql) (hel2 q hql) rfl
      have hln : ((cl1.drop (q * 11)).take 11).length = 11 := elem_len hrd1 hql
      refine ops_nil ?_
      refine nR26 ?_
      refine run_cond_true rfl ?_
      refine run_skip ?_
      refine run_seq ?_
      refine run_block ?_
      refine run_seq ?_
      refine run_still mixed (by kernel_rfl) ?_
      rintro w2 hw2
      have H2 := Hp.drew H1; rw [← hw2] at H2
      refine still_val (ex_move rfl) ?_
      refine still_val (ex_move rfl) ?_
      refine still_val (ex_idx Tryz.underlying24 ty71 rfl rfl rfl hql rfl) ?_
      refine still_val (ex_loadN ty71 rfl (vs := ((cl1.drop (q * 11)).take 11)) hln ((elem_cl (S := []) hrd1 hql (by simp)).to H2).cell) ?_
      refine nS26 ?_
      refine still_val (ex_move rfl) ?_
      refine still_val (ex_move rfl) ?_
      refine still_val (ex_idx Tryz.underlying24 ty71 rfl rfl rfl hql rfl) ?_
      refine still_val (ex_loadN ty71 rfl (vs := ((cl1.drop (q * 11)).take 11)) hln (by rw [show ((cl1.drop (q * 11)).take 11) = ((cl2.drop (q * 11)).take 11) from e12.symm]; exact ((elem_cl (S := []) hrd2 hql (by simp)).to H2).cell)) ?_
      refine nS26 ?_
      refine still_val (ex_neq_same lay71 (by decide) rfl agg71 eqg71 (hel1 q hql) rfl rfl) ?_
      refine still_nil ?_
      refine nR26 ?_
      refine run_cond_false rfl ?_
      refine run_skip ?_
      refine run_nil (blk_normal ?_)
      refine run_region ?_
      refine ops_val (ex_move rfl) ?_
      refine ops_val (ex_add rfl rfl (IntWalk.i64_in _ (by omega))) ?_
      refine ops_val (ex_assign rfl) ?_
      refine ops_nil ?_
      refine nR26 ?_
      refine run_nil (rnd_normal ?_)
      exact ⟨xs.length - (q + 1), by omega, q + 1, _, rfl, (fs (fs (fn (fn (fn (fs (fn (fn (fn (fn (fn (fn (fn (fn (fn (fn (fn (fn (fn (fn (fn (fn (fn (fn (fn (fn f0)))))))))))))))))))))))))), rfl, by omega, H2⟩
    · skip
      refine ops_nil ?_
      refine nR26 ?_
      refine run_cond_false rfl ?_
      refine run_exit ?_
      refine rnd_exit ?_
      refine blk_exit ?_
      refine run_seq ?_
      refine run_region ?_
      refine ops_val (ex_assign rfl) ?_
      refine ops_nil ?_
      refine nR26 ?_
      refine run_ret ?_
      refine fin_ret1 rfl rfl ?_
      exact ⟨rfl, H1⟩
theorem lay74 : lay Tryz.prog 6 74 [.int, .int, .text, .text, .int, .int, .int, .int] = true := by kernel_rfl
theorem agg74 : aggT Tryz.prog 74 = true := by kernel_rfl
theorem eqg74 : Tryz.prog.eqGuardType Tryz.prog.depth 74 = false := by kernel_rfl
set_option maxRecDepth 100000 in
set_option maxHeartbeats 4000000 in
theorem plaindeal_any (B1 B2 : Option Addr) (k1 k2 : Nat) (xs : List thdeal.X) (ok1 ok2 : Nat → Prop) (w0 : World) (hM1 : (Th.many thdeal false).M w0 ok1 xs [.slice B1 xs.length k1]) (hM2 : (Th.many thdeal false).M w0 ok2 xs [.slice B2 xs.length k2]) :
    Does Tryz.prog 27 #[.slice B1 xs.length k1, .slice B2 xs.length k2] w0 (fun r w' => r = .bool true ∧ Hp w0 w' [] []) := by
  refine does_of Tryz.func27 Tryz.ntmps27 rfl ?_
  refine nR26 ?_
  have H := Hp.refl w0
  obtain ⟨D1, kk1, cl1, heq1, hz1, hrd1, _, _, hel1⟩ := hM1
  simp only [List.cons.injEq, Value.slice.injEq, and_true, true_and] at heq1
  obtain ⟨rfl, rfl⟩ := heq1
  obtain ⟨D2, kk2, cl2, heq2, hz2, hrd2, _, _, hel2⟩ := hM2
  simp only [List.cons.injEq, Value.slice.injEq, and_true, true_and] at heq2
  obtain ⟨rfl, rfl⟩ := heq2
  have hlm := hz1.1
  refine run_seq ?_
  refine run_region ?_
  refine ops_val (ex_assign rfl) ?_
  refine ops_nil ?_
  refine nR26 ?_
  refine run_seq ?_
  refine run_seq ?_
  refine run_region ?_
  refine ops_val (ex_move rfl) ?_
  refine ops_val (ex_len_slice Tryz.underlying25 rfl) ?_
  refine ops_val (ex_move rfl) ?_
  refine ops_val (ex_len_slice Tryz.underlying25 rfl) ?_
  refine nO26 ?_
  refine ops_false (ex_neq rfl rfl) (by simp) ?_
  refine ops_nil ?_
  refine nR26 ?_
  refine run_cond_false rfl ?_
  refine run_skip ?_
  refine run_seq ?_
  refine run_seq ?_
  refine run_region ?_
  refine ops_val (ex_assign rfl) ?_
  refine ops_nil ?_
  refine nR26 ?_
  refine run_block ?_
  refine run_loop (fun n l w => ∃ (q : Nat) (y : Int), xs.length - q = n ∧ Fits [some (.slice B1 xs.length k1), some (.slice B2 xs.length k2), none, none, none, some (.int .i64 y), none, none, none, none, none, none, none, none, none, none, none, none, none, none, none, none, none, none, none, none] l ∧ y = q ∧ q ≤ xs.length ∧ Hp w0 w [] []) (xs.length) ?_ ?_
  · exact ⟨0, _, rfl, (fs (fs (fn (fn (fn (fs (fn (fn (fn (fn (fn (fn (fn (fn (fn (fn (fn (fn (fn (fn (fn (fn (fn (fn (fn (fn f0)))))))))))))))))))))))))), rfl, Nat.zero_le _, H⟩
  · rintro n l w1 ⟨q, y, rfl, hfit, rfl, hq, H1⟩
    obtain ⟨j, rfl⟩ := hfit.open
    refine nR26 ?_
    clear hfit
    refine run_seq ?_
    refine run_seq ?_
    refine run_region ?_
    refine ops_val (ex_move rfl) ?_
    refine ops_val (ex_move rfl) ?_
    refine ops_val (ex_len_slice Tryz.underlying25 rfl) ?_
    refine ops_test (ex_lss rfl rfl) (fun hp14 => ?_) (fun hp14 => ?_)
    · have hql : q < xs.length := by omega
      obtain ⟨p1, hp1⟩ := hrd1.some_ (by omega)
      subst hp1
      obtain ⟨p2, hp2⟩ := hrd2.some_ (by omega)
      subst hp2
      have e12 := plain_one (hel1 q hql) (hel2 q hql) rfl
      have hln : ((cl1.drop (q * 8)).take 8).length = 8 := elem_len hrd1 hql
      refine ops_nil ?_
      refine nR26 ?_
      refine run_cond_true rfl ?_
      refine run_skip ?_
      refine run_seq ?_
      refine run_block ?_
      refine run_seq ?_
      refine run_still mixed (by kernel_rfl) ?_
      rintro w2 hw2
      have H2 := Hp.drew H1; rw [← hw2] at H2
      refine still_val (ex_move rfl) ?_
      refine still_val (ex_move rfl) ?_
      refine still_val (ex_idx Tryz.underlying25 ty74 rfl rfl rfl hql rfl) ?_
      refine still_val (ex_loadN ty74 rfl (vs := ((cl1.drop (q * 8)).take 8)) hln ((elem_cl (S := []) hrd1 hql (by simp)).to H2).cell) ?_
      refine nS26 ?_
      refine still_val (ex_move rfl) ?_
      refine still_val (ex_move rfl) ?_
      refine still_val (ex_idx Tryz.underlying25 ty74 rfl rfl rfl hql rfl) ?_
      refine still_val (ex_loadN ty74 rfl (vs := ((cl1.drop (q * 8)).take 8)) hln (by rw [show ((cl1.drop (q * 8)).take 8) = ((cl2.drop (q * 8)).take 8) from e12.symm]; exact ((elem_cl (S := []) hrd2 hql (by simp)).to H2).cell)) ?_
      refine nS26 ?_
      refine still_val (ex_neq_same lay74 (by decide) rfl agg74 eqg74 (hel1 q hql) rfl rfl) ?_
      refine still_nil ?_
      refine nR26 ?_
      refine run_cond_false rfl ?_
      refine run_skip ?_
      refine run_nil (blk_normal ?_)
      refine run_region ?_
      refine ops_val (ex_move rfl) ?_
      refine ops_val (ex_add rfl rfl (IntWalk.i64_in _ (by omega))) ?_
      refine ops_val (ex_assign rfl) ?_
      refine ops_nil ?_
      refine nR26 ?_
      refine run_nil (rnd_normal ?_)
      exact ⟨xs.length - (q + 1), by omega, q + 1, _, rfl, (fs (fs (fn (fn (fn (fs (fn (fn (fn (fn (fn (fn (fn (fn (fn (fn (fn (fn (fn (fn (fn (fn (fn (fn (fn (fn f0)))))))))))))))))))))))))), rfl, by omega, H2⟩
    · skip
      refine ops_nil ?_
      refine nR26 ?_
      refine run_cond_false rfl ?_
      refine run_exit ?_
      refine rnd_exit ?_
      refine blk_exit ?_
      refine run_seq ?_
      refine run_region ?_
      refine ops_val (ex_assign rfl) ?_
      refine ops_nil ?_
      refine nR26 ?_
      refine run_ret ?_
      refine fin_ret1 rfl rfl ?_
      exact ⟨rfl, H1⟩
theorem lay77 : lay Tryz.prog 6 77 [.int, .int] = true := by kernel_rfl
theorem agg77 : aggT Tryz.prog 77 = true := by kernel_rfl
theorem eqg77 : Tryz.prog.eqGuardType Tryz.prog.depth 77 = false := by kernel_rfl
set_option maxRecDepth 100000 in
set_option maxHeartbeats 4000000 in
theorem plainend_any (B1 B2 : Option Addr) (k1 k2 : Nat) (xs : List thend.X) (ok1 ok2 : Nat → Prop) (w0 : World) (hM1 : (Th.many thend false).M w0 ok1 xs [.slice B1 xs.length k1]) (hM2 : (Th.many thend false).M w0 ok2 xs [.slice B2 xs.length k2]) :
    Does Tryz.prog 28 #[.slice B1 xs.length k1, .slice B2 xs.length k2] w0 (fun r w' => r = .bool true ∧ Hp w0 w' [] []) := by
  refine does_of Tryz.func28 Tryz.ntmps28 rfl ?_
  refine nR26 ?_
  have H := Hp.refl w0
  obtain ⟨D1, kk1, cl1, heq1, hz1, hrd1, _, _, hel1⟩ := hM1
  simp only [List.cons.injEq, Value.slice.injEq, and_true, true_and] at heq1
  obtain ⟨rfl, rfl⟩ := heq1
  obtain ⟨D2, kk2, cl2, heq2, hz2, hrd2, _, _, hel2⟩ := hM2
  simp only [List.cons.injEq, Value.slice.injEq, and_true, true_and] at heq2
  obtain ⟨rfl, rfl⟩ := heq2
  have hlm := hz1.1
  refine run_seq ?_
  refine run_region ?_
  refine ops_val (ex_assign rfl) ?_
  refine ops_nil ?_
  refine nR26 ?_
  refine run_seq ?_
  refine run_seq ?_
  refine run_region ?_
  refine ops_val (ex_move rfl) ?_
  refine ops_val (ex_len_slice Tryz.underlying26 rfl) ?_
  refine ops_val (ex_move rfl) ?_
  refine ops_val (ex_len_slice Tryz.underlying26 rfl) ?_
  refine nO26 ?_
  refine ops_false (ex_neq rfl rfl) (by simp) ?_
  refine ops_nil ?_
  refine nR26 ?_
  refine run_cond_false rfl ?_
  refine run_skip ?_
  refine run_seq ?_
  refine run_seq ?_
  refine run_region ?_
  refine ops_val (ex_assign rfl) ?_
  refine ops_nil ?_
  refine nR26 ?_
  refine run_block ?_
  refine run_loop (fun n l w => ∃ (q : Nat) (y : Int), xs.length - q = n ∧ Fits [some (.slice B1 xs.length k1), some (.slice B2 xs.length k2), none, none, none, some (.int .i64 y), none, none, none, none, none, none, none, none, none, none, none, none, none, none, none, none, none, none, none, none] l ∧ y = q ∧ q ≤ xs.length ∧ Hp w0 w [] []) (xs.length) ?_ ?_
  · exact ⟨0, _, rfl, (fs (fs (fn (fn (fn (fs (fn (fn (fn (fn (fn (fn (fn (fn (fn (fn (fn (fn (fn (fn (fn (fn (fn (fn (fn (fn f0)))))))))))))))))))))))))), rfl, Nat.zero_le _, H⟩
  · rintro n l w1 ⟨q, y, rfl, hfit, rfl, hq, H1⟩
    obtain ⟨j, rfl⟩ := hfit.open
    refine nR26 ?_
    clear hfit
    refine run_seq ?_
    refine run_seq ?_
    refine run_region ?_
    refine ops_val (ex_move rfl) ?_
    refine ops_val (ex_move rfl) ?_
    refine ops_val (ex_len_slice Tryz.underlying26 rfl) ?_
    refine ops_test (ex_lss rfl rfl) (fun hp14 => ?_) (fun hp14 => ?_)
    · have hql : q < xs.length := by omega
      obtain ⟨p1, hp1⟩ := hrd1.some_ (by omega)
      subst hp1
      obtain ⟨p2, hp2⟩ := hrd2.some_ (by omega)
      subst hp2
      have e12 := plain_one (hel1 q hql) (hel2 q hql) rfl
      have hln : ((cl1.drop (q * 2)).take 2).length = 2 := elem_len hrd1 hql
      refine ops_nil ?_
      refine nR26 ?_
      refine run_cond_true rfl ?_
      refine run_skip ?_
      refine run_seq ?_
      refine run_block ?_
      refine run_seq ?_
      refine run_still mixed (by kernel_rfl) ?_
      rintro w2 hw2
      have H2 := Hp.drew H1; rw [← hw2] at H2
      refine still_val (ex_move rfl) ?_
      refine still_val (ex_move rfl) ?_
      refine still_val (ex_idx Tryz.underlying26 ty77 rfl rfl rfl hql rfl) ?_
      refine still_val (ex_loadN ty77 rfl (vs := ((cl1.drop (q * 2)).take 2)) hln ((elem_cl (S := []) hrd1 hql (by simp)).to H2).cell) ?_
      refine nS26 ?_
      refine still_val (ex_move rfl) ?_
      refine still_val (ex_move rfl) ?_
      refine still_val (ex_idx Tryz.underlying26 ty77 rfl rfl rfl hql rfl) ?_
      refine still_val (ex_loadN ty77 rfl (vs := ((cl1.drop (q * 2)).take 2)) hln (by rw [show ((cl1.drop (q * 2)).take 2) = ((cl2.drop (q * 2)).take 2) from e12.symm]; exact ((elem_cl (S := []) hrd2 hql (by simp)).to H2).cell)) ?_
      refine nS26 ?_
      refine still_val (ex_neq_same lay77 (by decide) rfl agg77 eqg77 (hel1 q hql) rfl rfl) ?_
      refine still_nil ?_
      refine nR26 ?_
      refine run_cond_false rfl ?_
      refine run_skip ?_
      refine run_nil (blk_normal ?_)
      refine run_region ?_
      refine ops_val (ex_move rfl) ?_
      refine ops_val (ex_add rfl rfl (IntWalk.i64_in _ (by omega))) ?_
      refine ops_val (ex_assign rfl) ?_
      refine ops_nil ?_
      refine nR26 ?_
      refine run_nil (rnd_normal ?_)
      exact ⟨xs.length - (q + 1), by omega, q + 1, _, rfl, (fs (fs (fn (fn (fn (fs (fn (fn (fn (fn (fn (fn (fn (fn (fn (fn (fn (fn (fn (fn (fn (fn (fn (fn (fn (fn f0)))))))))))))))))))))))))), rfl, by omega, H2⟩
    · skip
      refine ops_nil ?_
      refine nR26 ?_
      refine run_cond_false rfl ?_
      refine run_exit ?_
      refine rnd_exit ?_
      refine blk_exit ?_
      refine run_seq ?_
      refine run_region ?_
      refine ops_val (ex_assign rfl) ?_
      refine ops_nil ?_
      refine nR26 ?_
      refine run_ret ?_
      refine fin_ret1 rfl rfl ?_
      exact ⟨rfl, H1⟩
theorem lay89 : lay Tryz.prog 6 89 [.int, .int] = true := by kernel_rfl
theorem agg89 : aggT Tryz.prog 89 = true := by kernel_rfl
theorem eqg89 : Tryz.prog.eqGuardType Tryz.prog.depth 89 = false := by kernel_rfl
theorem lay92 : lay Tryz.prog 6 92 [.int, .int, .int, .int] = true := by kernel_rfl
theorem agg92 : aggT Tryz.prog 92 = true := by kernel_rfl
theorem eqg92 : Tryz.prog.eqGuardType Tryz.prog.depth 92 = false := by kernel_rfl
set_option maxRecDepth 100000 in
set_option maxHeartbeats 4000000 in
theorem saccount_any (x : thaccount.X) (c1 c2 : List Value) (ok1 ok2 : Nat → Prop) (w0 : World) (hM1 : thaccount.M w0 ok1 x c1) (hM2 : thaccount.M w0 ok2 x c2) (hsh : Short (thaccount.fl x)) :
    Does Tryz.prog 62 #[.agg c1.toArray, .agg c2.toArray] w0 (fun r w' => r = .bool true ∧ Hp w0 w' [] []) := by
  refine does_of Tryz.func62 Tryz.ntmps62 rfl ?_
  refine nR45 ?_
  have H := Hp.refl w0
  have hl1 := thaccount.len hM1
  have hl2 := thaccount.len hM2
  have hS1_0 := (Th.fst (Th.fst hM1))
  have hA1_0 := At.castM (o' := 0) (cs := c1) hS1_0 (At.of_take (At.of_take (At.self _))) (by decide)
  have hS2_0 := (Th.fst (Th.fst hM2))
  have hA2_0 := At.castM (o' := 0) (cs := c2) hS2_0 (At.of_take (At.of_take (At.self _))) (by decide)
  have hS1_1 := (Th.snd (Th.fst hM1))
  have hA1_1 := At.castM (o' := 5) (cs := c1) hS1_1 (At.of_take (At.drop _ _)) (by decide)
  have hS2_1 := (Th.snd (Th.fst hM2))
  have hA2_1 := At.castM (o' := 5) (cs := c2) hS2_1 (At.of_take (At.drop _ _)) (by decide)
  obtain ⟨B1_1, k1_1, cl1_1, hv1_1, _⟩ := id hS1_1
  rw [hv1_1] at hS1_1 hA1_1
  replace hS1_1 := many_free hS1_1
  obtain ⟨B2_1, k2_1, cl2_1, hv2_1, _⟩ := id hS2_1
  rw [hv2_1] at hS2_1 hA2_1
  replace hS2_1 := many_free hS2_1
  have hS1_2 := (Th.snd hM1)
  have hA1_2 := At.castM (o' := 6) (cs := c1) hS1_2 (At.drop _ _) (by decide)
  have hS2_2 := (Th.snd hM2)
  have hA2_2 := At.castM (o' := 6) (cs := c2) hS2_2 (At.drop _ _) (by decide)
  obtain ⟨hsr2, hss2⟩ := Short.app hsh
  obtain ⟨hsr1, hss1⟩ := Short.app hsr2
  have hss0 := hsr1
  obtain ⟨n0, hx0, hv0⟩ := get_text hS1_0 0 rfl
  have hu0 := and_text hS2_0 hx0
  replace hv0 : c1[0]? = _ := hA1_0 0 _ hv0
  replace hu0 : c2[0]? = _ := hA2_0 0 _ hu0
  have hg1_1 := Th.part hS1_0 1 2
  have hg2_1 := Th.part hS2_0 1 2
  have ht1_1 := At.cast (o' := 1) (At.trans hA1_0 (At.sub _ 1 2)) (by decide)
  have ht2_1 := At.cast (o' := 1) (At.trans hA2_0 (At.sub _ 1 2)) (by decide)
  have hl101 := part_len hS1_0 (k := 1) (n := 2) (by decide)
  have hm101 := part_len hS2_0 (k := 1) (n := 2) (by decide)
  have hp1 := plain_one hg1_1 hg2_1 rfl
  obtain ⟨n3, hx3, hv3, _, _⟩ := get_int hS1_0 3 rfl
  have hu3 := and_int hS2_0 hx3
  replace hv3 : c1[3]? = _ := hA1_0 3 _ hv3
  replace hu3 : c2[3]? = _ := hA2_0 3 _ hu3
  obtain ⟨n4, hx4, hv4, _, _⟩ := get_int hS1_0 4 rfl
  have hu4 := and_int hS2_0 hx4
  replace hv4 : c1[4]? = _ := hA1_0 4 _ hv4
  replace hu4 : c2[4]? = _ := hA2_0 4 _ hu4
  have hv5 : c1[5]? = some (.slice B1_1 _ k1_1) := hA1_1 0 _ rfl
  have hu5 : c2[5]? = some (.slice B2_1 _ k2_1) := hA2_1 0 _ rfl
  have hg1_6 := Th.part hS1_2 0 4
  have hg2_6 := Th.part hS2_2 0 4
  have ht1_6 := At.cast (o' := 6) (At.trans hA1_2 (At.sub _ 0 4)) (by decide)
  have ht2_6 := At.cast (o' := 6) (At.trans hA2_2 (At.sub _ 0 4)) (by decide)
  have hl106 := part_len hS1_2 (k := 0) (n := 4) (by decide)
  have hm106 := part_len hS2_2 (k := 0) (n := 4) (by decide)
  have hp6 := plain_one hg1_6 hg2_6 rfl
  refine run_seq ?_
  refine run_region ?_
  refine ops_box rfl rfl H ?_
  intro w1 g1 H1 hg1
  refine ops_box rfl rfl H1 ?_
  intro w2 g2 H2 hg2
  refine ops_val (ex_assign rfl) ?_
  refine ops_nil ?_
  refine nR45 ?_
  refine run_seq ?_
  refine run_region ?_
  refine ops_val (ex_fieldAddr fl94_0 rfl) ?_
  refine ops_val (ex_load ty9 rfl (H2.cell (i := 0) rfl hv0)) ?_
  refine ops_val (ex_fieldAddr fl94_0 rfl) ?_
  refine ops_val (ex_load ty9 rfl (H2.cell (i := 1) rfl hu0)) ?_
  refine nO45 ?_
  refine ops_val (ex_eql_strS rfl rfl) ?_
  refine ops_val (ex_move rfl) ?_
  refine nO45 ?_
  refine ops_yes rfl ?_
  refine ops_val (ex_fieldAddr fl94_1 rfl) ?_
  refine ops_yes rfl ?_
  refine ops_val (ex_loadN ty89 rfl (vs := _) hl101 (H2.cellsAt (i := 0) rfl ht1_1)) ?_
  refine nO45 ?_
  refine ops_yes rfl ?_
  refine ops_val (ex_fieldAddr fl94_1 rfl) ?_
  refine ops_yes rfl ?_
  refine ops_val (ex_loadN ty89 rfl (vs := _) hl101 (by rw [← hp1]; exact H2.cellsAt (i := 1) rfl ht2_1)) ?_
  refine nO45 ?_
  refine ops_yes rfl ?_
  refine ops_val (ex_eql_same lay89 (by decide) rfl agg89 eqg89 hg1_1 rfl rfl) ?_
  refine ops_val (ex_pick_t rfl rfl) ?_
  refine ops_val (ex_move rfl) ?_
  refine nO45 ?_
  refine ops_yes rfl ?_
  refine ops_val (ex_fieldAddr fl94_2 rfl) ?_
  refine ops_yes rfl ?_
  refine ops_val (ex_load ty3 rfl (H2.cell (i := 0) rfl hv3)) ?_
  refine nO45 ?_
  refine ops_yes rfl ?_
  refine ops_val (ex_fieldAddr fl94_2 rfl) ?_
  refine ops_yes rfl ?_
  refine ops_val (ex_load ty3 rfl (H2.cell (i := 1) rfl hu3)) ?_
  refine nO45 ?_
  refine ops_yes rfl ?_
  refine ops_true (ex_eql rfl rfl) (rfl) ?_
  refine ops_val (ex_pick_t rfl rfl) ?_
  refine ops_val (ex_move rfl) ?_
  refine nO45 ?_
  refine ops_yes rfl ?_
  refine ops_val (ex_fieldAddr fl94_3 rfl) ?_
  refine ops_yes rfl ?_
  refine ops_val (ex_load ty3 rfl (H2.cell (i := 0) rfl hv4)) ?_
  refine nO45 ?_
  refine ops_yes rfl ?_
  refine ops_val (ex_fieldAddr fl94_3 rfl) ?_
  refine ops_yes rfl ?_
  refine ops_val (ex_load ty3 rfl (H2.cell (i := 1) rfl hu4)) ?_
  refine nO45 ?_
  refine ops_yes rfl ?_
  refine ops_true (ex_eql rfl rfl) (rfl) ?_
  refine ops_val (ex_pick_t rfl rfl) ?_
  refine ops_val (ex_move rfl) ?_
  refine nO45 ?_
  refine ops_yes rfl ?_
  refine ops_val (ex_fieldAddr fl94_4 rfl) ?_
  refine ops_yes rfl ?_
  refine ops_val (ex_load ty90 rfl (H2.cell (i := 0) rfl hv5)) ?_
  refine nO45 ?_
  refine ops_yes rfl ?_
  refine ops_val (ex_fieldAddr fl94_4 rfl) ?_
  refine ops_yes rfl ?_
  refine ops_val (ex_load ty90 rfl (H2.cell (i := 1) rfl hu5)) ?_
  refine nO45 ?_
  refine ops_yes rfl ?_
  refine ops_call_val (ex_call gf89 rfl) (plainholder_any _ _ _ _ _ _ _ _ (Th.to _ hS1_1 H2 (fun _ _ => by simp)) (Th.to _ hS2_1 H2 (fun _ _ => by simp))) ?_
  intro w3 Hd
  have H3 := H2.call0 Hd
  refine ops_val (ex_pick_t rfl rfl) ?_
  refine ops_val (ex_move rfl) ?_
  refine nO45 ?_
  refine ops_yes rfl ?_
  refine ops_val (ex_fieldAddr fl94_5 rfl) ?_
  refine ops_yes rfl ?_
  refine ops_val (ex_loadN ty92 rfl (vs := _) hl106 (H3.cellsAt (i := 0) rfl ht1_6)) ?_
  refine nO45 ?_
  refine ops_yes rfl ?_
  refine ops_val (ex_fieldAddr fl94_5 rfl) ?_
  refine ops_yes rfl ?_
  refine ops_val (ex_loadN ty92 rfl (vs := _) hl106 (by rw [← hp6]; exact H3.cellsAt (i := 1) rfl ht2_6)) ?_
  refine nO45 ?_
  refine ops_yes rfl ?_
  refine ops_val (ex_eql_same lay92 (by decide) rfl agg92 eqg92 hg1_6 rfl rfl) ?_
  refine ops_val (ex_pick_t rfl rfl) ?_
  refine ops_val (ex_assign rfl) ?_
  refine ops_nil ?_
  refine nR45 ?_
  refine run_ret ?_
  refine fin_ret1 rfl rfl ?_
  exact ⟨rfl, H3.pick [] (by decide)⟩
set_option maxRecDepth 100000 in
set_option maxHeartbeats 4000000 in
theorem slaccount_any (B1 B2 : Option Addr) (k1 k2 : Nat) (xs : List thaccount.X) (ok1 ok2 : Nat → Prop) (w0 : World) (hM1 : (Th.many thaccount false).M w0 ok1 xs [.slice B1 xs.length k1]) (hM2 : (Th.many thaccount false).M w0 ok2 xs [.slice B2 xs.length k2]) (hsh : Short ((Th.many thaccount false).fl xs)) :
    Does Tryz.prog 61 #[.slice B1 xs.length k1, .slice B2 xs.length k2, .func (.func 62) #[] #[]] w0 (fun r w' => r = .bool true ∧ Hp w0 w' [] []) := by
  refine does_of Tryz.func61 Tryz.ntmps61 rfl ?_
  refine nR30 ?_
  have H := Hp.refl w0
  obtain ⟨D1, kk1, cl1, heq1, hz1, hrd1, _, _, hel1⟩ := hM1
  simp only [List.cons.injEq, Value.slice.injEq, and_true, true_and] at heq1
  obtain ⟨rfl, rfl⟩ := heq1
  obtain ⟨D2, kk2, cl2, heq2, hz2, hrd2, _, _, hel2⟩ := hM2
  simp only [List.cons.injEq, Value.slice.injEq, and_true, true_and] at heq2
  obtain ⟨rfl, rfl⟩ := heq2
  have hlm := hz1.1
  refine run_seq ?_
  refine run_region ?_
  refine ops_val (ex_assign rfl) ?_
  refine ops_nil ?_
  refine nR30 ?_
  refine run_seq ?_
  refine run_seq ?_
  refine run_region ?_
  refine ops_val (ex_move rfl) ?_
  refine ops_val (ex_len_slice Tryz.underlying22 rfl) ?_
  refine ops_val (ex_move rfl) ?_
  refine ops_val (ex_len_slice Tryz.underlying22 rfl) ?_
  refine nO30 ?_
  refine ops_false (ex_neq rfl rfl) (by simp) ?_
  refine ops_nil ?_
  refine nR30 ?_
  refine run_cond_false rfl ?_
  refine run_skip ?_
  refine run_seq ?_
  refine run_seq ?_
  refine run_region ?_
  refine ops_val (ex_assign rfl) ?_
  refine ops_nil ?_
  refine nR30 ?_
  refine run_block ?_
  refine run_loop (fun n l w => ∃ (q : Nat) (y : Int), xs.length - q = n ∧ Fits [some (.slice B1 xs.length k1), some (.slice B2 xs.length k2), some (.func (.func 62) #[] #[]), none, none, none, none, some (.int .i64 y), none, none, none, none, none, none, none, none, none, none, none, none, none, none, none, none, none, none, none, none, none, none] l ∧ y = q ∧ q ≤ xs.length ∧ Hp w0 w [] []) (xs.length) ?_ ?_
  · exact ⟨0, _, rfl, (fs (fs (fs (fn (fn (fn (fn (fs (fn (fn (fn (fn (fn (fn (fn (fn (fn (fn (fn (fn (fn (fn (fn (fn (fn (fn (fn (fn (fn (fn f0)))))))))))))))))))))))))))))), rfl, Nat.zero_le _, H⟩
  · rintro n l w1 ⟨q, y, rfl, hfit, rfl, hq, H1⟩
    obtain ⟨j, rfl⟩ := hfit.open
    refine nR30 ?_
    clear hfit
    refine run_seq ?_
    refine run_seq ?_
    refine run_region ?_
    refine ops_val (ex_move rfl) ?_
    refine ops_val (ex_move rfl) ?_
    refine ops_val (ex_len_slice Tryz.underlying22 rfl) ?_
    refine ops_test (ex_lss rfl rfl) (fun hp16 => ?_) (fun hp16 => ?_)
    · have hql : q < xs.length := by omega
      obtain ⟨p1, hp1⟩ := hrd1.some_ (by omega)
      subst hp1
      obtain ⟨p2, hp2⟩ := hrd2.some_ (by omega)
      subst hp2
      have hln1 : ((cl1.drop (q * 10)).take 10).length = 10 := elem_len hrd1 hql
      have hln2 : ((cl2.drop (q * 10)).take 10).length = 10 := elem_len hrd2 hql
      refine ops_nil ?_
      refine nR30 ?_
      refine run_cond_true rfl ?_
      refine run_skip ?_
      refine run_seq ?_
      refine run_block ?_
      refine run_seq ?_
      refine run_tail 9 mixed (by kernel_rfl) ?_
      rintro w2 hw2
      have H2 := Hp.drew H1; rw [← hw2] at H2
      refine still_val (ex_move rfl) ?_
      refine still_val (ex_move rfl) ?_
      refine still_val (ex_move rfl) ?_
      refine still_val (ex_idx Tryz.underlying22 ty94 rfl rfl rfl hql rfl) ?_
      refine nS30 ?_
      refine still_val (ex_loadN ty94 rfl (vs := ((cl1.drop (q * 10)).take 10)) hln1 ((elem_cl (S := []) hrd1 hql (by simp)).to H2).cell) ?_
      refine still_val (ex_move rfl) ?_
      refine still_val (ex_move rfl) ?_
      refine still_val (ex_idx Tryz.underlying22 ty94 rfl rfl rfl hql rfl) ?_
      refine nS30 ?_
      refine still_val (ex_loadN ty94 rfl (vs := ((cl2.drop (q * 10)).take 10)) hln2 ((elem_cl (S := []) hrd2 hql (by simp)).to H2).cell) ?_
      refine still_nil ?_
      refine ops_call_val (ex_call_val (cap := []) gf62 rfl rfl) (saccount_any _ _ _ _ _ _ (Th.to _ (hel1 q hql) H2 (fun _ _ => by simp)) (Th.to _ (hel2 q hql) H2 (fun _ _ => by simp)) (Short.at hsh hql)) ?_
      intro w3 Hd
      have H3 := H2.call0 Hd
      refine ops_val (ex_not rfl) ?_
      refine ops_nil ?_
      refine nR30 ?_
      refine run_cond_false rfl ?_
      refine run_skip ?_
      refine run_nil (blk_normal ?_)
      refine run_region ?_
      refine ops_val (ex_move rfl) ?_
      refine ops_val (ex_add rfl rfl (IntWalk.i64_in _ (by omega))) ?_
      refine ops_val (ex_assign rfl) ?_
      refine ops_nil ?_
      refine nR30 ?_
      refine run_nil (rnd_normal ?_)
      exact ⟨xs.length - (q + 1), by omega, q + 1, _, rfl, (fs (fs (fs (fn (fn (fn (fn (fs (fn (fn (fn (fn (fn (fn (fn (fn (fn (fn (fn (fn (fn (fn (fn (fn (fn (fn (fn (fn (fn (fn f0)))))))))))))))))))))))))))))), rfl, by omega, H3⟩
    · skip
      refine ops_nil ?_
      refine nR30 ?_
      refine run_cond_false rfl ?_
      refine run_exit ?_
      refine rnd_exit ?_
      refine blk_exit ?_
      refine run_seq ?_
      refine run_region ?_
      refine ops_val (ex_assign rfl) ?_
      refine ops_nil ?_
      refine nR30 ?_
      refine run_ret ?_
      refine fin_ret1 rfl rfl ?_
      exact ⟨rfl, H1⟩
set_option maxRecDepth 100000 in
set_option maxHeartbeats 4000000 in
theorem slistaccount_any (B1 B2 : Option Addr) (k1 k2 : Nat) (xs : List thaccount.X) (ok1 ok2 : Nat → Prop) (w0 : World) (hM1 : (Th.many thaccount false).M w0 ok1 xs [.slice B1 xs.length k1]) (hM2 : (Th.many thaccount false).M w0 ok2 xs [.slice B2 xs.length k2]) (hsh : Short ((Th.many thaccount false).fl xs)) :
    Does Tryz.prog 24 #[.slice B1 xs.length k1, .slice B2 xs.length k2] w0 (fun r w' => r = .bool true ∧ Hp w0 w' [] []) := by
  refine does_of Tryz.func24 Tryz.ntmps24 rfl ?_
  change Run _ _ _ _ [.slice B1 xs.length k1, .slice B2 xs.length k2, undef, undef, undef, undef, undef, undef] _
  have H := Hp.refl w0
  refine run_seq ?_
  refine run_region ?_
  refine ops_val (ex_assign rfl) ?_
  refine ops_nil ?_
  change Run _ _ _ _ [_, _, _, _, _, _, _, _] _
  refine run_seq ?_
  refine run_region ?_
  refine ops_val (ex_move rfl) ?_
  refine ops_val (ex_move rfl) ?_
  refine ops_call_val (ex_call gf61 rfl) (slaccount_any B1 B2 k1 k2 xs ok1 ok2 _ hM1 hM2 hsh) ?_
  intro w1 Hd
  have H1 := H.call0 Hd
  refine ops_val (ex_assign rfl) ?_
  refine ops_nil ?_
  change Run _ _ _ _ [_, _, _, _, _, _, _, _] _
  refine run_ret ?_
  refine fin_ret1 rfl rfl ?_
  exact ⟨rfl, H1⟩
end Go.Proofs.YtoeobicpdeklaaaGreat
