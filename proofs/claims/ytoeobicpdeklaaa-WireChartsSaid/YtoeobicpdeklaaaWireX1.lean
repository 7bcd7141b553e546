/- Walks of layer 2, printed by wip/gen/codec.py. -/
import Derived.Test.YtoeobicpdeklaaaBig
import Derived.Test.YtoeobicpdeklaaaWireQ3
import Derived.Test.YtoeobicpdeklaaaWireQ1
import Derived.Test.YtoeobicpdeklaaaLst
namespace Go.Proofs.Ytoeobicpdeklaaa
open Go Go.RowKit
set_option linter.unusedVariables false
attribute [local irreducible] Still Ops Does Cd
theorem lay119 : lay Try.prog 6 119 [.int, .text, .int] = true := by kernel_rfl
theorem agg119 : aggT Try.prog 119 = true := by kernel_rfl
theorem eqg119 : Try.prog.eqGuardType Try.prog.depth 119 = false := by kernel_rfl
set_option maxRecDepth 100000 in
set_option maxHeartbeats 4000000 in
theorem plainplace_any (B1 B2 : Option Addr) (k1 k2 : Nat) (xs : List thplace.X) (ok1 ok2 : Nat → Prop) (w0 : World) (hM1 : (Th.many thplace false).M w0 ok1 xs [.slice B1 xs.length k1]) (hM2 : (Th.many thplace false).M w0 ok2 xs [.slice B2 xs.length k2]) :
    Does Try.prog 58 #[.slice B1 xs.length k1, .slice B2 xs.length k2] w0 (fun r w' => r = .bool true ∧ Hp w0 w' [] []) := by
  refine does_of Try.func58 Try.ntmps58 rfl ?_
  change Run _ _ _ _ [.slice B1 xs.length k1, .slice B2 xs.length k2, undef, undef, undef, undef, undef, undef, undef, undef, undef, undef, undef, undef, undef, undef, undef, undef, undef, undef, undef, undef, undef, undef, undef, undef] _
  have H := Hp.refl w0
  obtain ⟨D1, kk1, cl1, heq1, hz1, hrd1, _, _, hel1⟩ := hM1
  simp only [List.cons.injEq, Value.slice.injEq, and_true, true_and] at heq1
  obtain ⟨rfl, rfl⟩ := heq1
  obtain ⟨D2, kk2, cl2, heq2, hz2, hrd2, _, _, hel2⟩ := hM2
  simp only [List.cons.injEq, Value.slice.injEq, and_true, true_and] at heq2
  obtain ⟨rfl, rfl⟩ := heq2
  have hlm := hz1.1
  refine run_seq ?_
  refine run_region ?_
  refine ops_val (ex_assign rfl) ?_
  refine ops_nil ?_
  change Run _ _ _ _ [_, _, _, _, _, _, _, _, _, _, _, _, _, _, _, _, _, _, _, _, _, _, _, _, _, _] _
  refine run_seq ?_
  refine run_seq ?_
  refine run_region ?_
  refine ops_val (ex_move rfl) ?_
  refine ops_val (ex_len_slice Try.underlying56 rfl) ?_
  refine ops_val (ex_move rfl) ?_
  refine ops_val (ex_len_slice Try.underlying56 rfl) ?_
  change Ops _ _ _ _ _ _ [_, _, _, _, _, _, _, _, _, _, _, _, _, _, _, _, _, _, _, _, _, _, _, _, _, _] _
  refine ops_false (ex_neq rfl rfl) (by simp) ?_
  refine ops_nil ?_
  change Run _ _ _ _ [_, _, _, _, _, _, _, _, _, _, _, _, _, _, _, _, _, _, _, _, _, _, _, _, _, _] _
  refine run_cond_false rfl ?_
  refine run_skip ?_
  refine run_seq ?_
  refine run_seq ?_
  refine run_region ?_
  refine ops_val (ex_assign rfl) ?_
  refine ops_nil ?_
  change Run _ _ _ _ [_, _, _, _, _, _, _, _, _, _, _, _, _, _, _, _, _, _, _, _, _, _, _, _, _, _] _
  refine run_block ?_
  refine run_loop (fun n l w => ∃ (q : Nat) (y : Int), xs.length - q = n ∧ Fits [some (.slice B1 xs.length k1), some (.slice B2 xs.length k2), none, none, none, some (.int .i64 y), none, none, none, none, none, none, none, none, none, none, none, none, none, none, none, none, none, none, none, none] l ∧ y = q ∧ q ≤ xs.length ∧ Hp w0 w [] []) (xs.length) ?_ ?_
  · exact ⟨0, _, rfl, (fs (fs (fn (fn (fn (fs (fn (fn (fn (fn (fn (fn (fn (fn (fn (fn (fn (fn (fn (fn (fn (fn (fn (fn (fn (fn f0)))))))))))))))))))))))))), rfl, Nat.zero_le _, H⟩
  · rintro n l w1 ⟨q, y, rfl, hfit, rfl, hq, H1⟩
    obtain ⟨j, rfl⟩ := hfit.open
    change Run _ _ _ _ [_, _, _, _, _, _, _, _, _, _, _, _, _, _, _, _, _, _, _, _, _, _, _, _, _, _] _
    clear hfit
    refine run_seq ?_
    refine run_seq ?_
    refine run_region ?_
    refine ops_val (ex_move rfl) ?_
    refine ops_val (ex_move rfl) ?_
    refine ops_val (ex_len_slice Try.underlying56 rfl) ?_
    refine ops_test (ex_lss rfl rfl) (fun hp14 => ?_) (fun hp14 => ?_)
    · have hql : q < xs.length := by omega
      obtain ⟨p1, hp1⟩ := hrd1.some_ (by omega)
      subst hp1
      obtain ⟨p2, hp2⟩ := hrd2.some_ (by omega)
      subst hp2
      have e12 := plain_one (hel1 q hql) (hel2 q hql) rfl
      have hln : ((cl1.drop (q * 3)).take 3).length = 3 := elem_len hrd1 hql
      refine ops_nil ?_
      change Run _ _ _ _ [_, _, _, _, _, _, _, _, _, _, _, _, _, _, _, _, _, _, _, _, _, _, _, _, _, _] _
      refine run_cond_true rfl ?_
      refine run_skip ?_
      refine run_seq ?_
      refine run_block ?_
      refine run_seq ?_
      refine run_still mixed (by kernel_rfl) ?_
      rintro w2 hw2
      have H2 := Hp.drew H1; rw [← hw2] at H2
      refine still_val (ex_move rfl) ?_
      refine still_val (ex_move rfl) ?_
      refine still_val (ex_idx Try.underlying56 ty119 rfl rfl rfl hql rfl) ?_
      refine still_val (ex_loadN ty119 rfl (vs := ((cl1.drop (q * 3)).take 3)) hln ((elem_cl (S := []) hrd1 hql (by simp)).to H2).cell) ?_
      change Still _ _ _ _ _ _ [_, _, _, _, _, _, _, _, _, _, _, _, _, _, _, _, _, _, _, _, _, _, _, _, _, _]
      refine still_val (ex_move rfl) ?_
      refine still_val (ex_move rfl) ?_
      refine still_val (ex_idx Try.underlying56 ty119 rfl rfl rfl hql rfl) ?_
      refine still_val (ex_loadN ty119 rfl (vs := ((cl1.drop (q * 3)).take 3)) hln (by rw [show ((cl1.drop (q * 3)).take 3) = ((cl2.drop (q * 3)).take 3) from e12.symm]; exact ((elem_cl (S := []) hrd2 hql (by simp)).to H2).cell)) ?_
      change Still _ _ _ _ _ _ [_, _, _, _, _, _, _, _, _, _, _, _, _, _, _, _, _, _, _, _, _, _, _, _, _, _]
      refine still_val (ex_neq_same lay119 (by decide) rfl agg119 eqg119 (hel1 q hql) rfl rfl) ?_
      refine still_nil ?_
      change Run _ _ _ _ [_, _, _, _, _, _, _, _, _, _, _, _, _, _, _, _, _, _, _, _, _, _, _, _, _, _] _
      refine run_cond_false rfl ?_
      refine run_skip ?_
      refine run_nil (blk_normal ?_)
      refine run_region ?_
      refine ops_val (ex_move rfl) ?_
      refine ops_val (ex_add rfl rfl (IntWalk.i64_in _ (by omega))) ?_
      refine ops_val (ex_assign rfl) ?_
      refine ops_nil ?_
      change Run _ _ _ _ [_, _, _, _, _, _, _, _, _, _, _, _, _, _, _, _, _, _, _, _, _, _, _, _, _, _] _
      refine run_nil (rnd_normal ?_)
      exact ⟨xs.length - (q + 1), by omega, q + 1, _, rfl, (fs (fs (fn (fn (fn (fs (fn (fn (fn (fn (fn (fn (fn (fn (fn (fn (fn (fn (fn (fn (fn (fn (fn (fn (fn (fn f0)))))))))))))))))))))))))), rfl, by omega, H2⟩
    · skip
      refine ops_nil ?_
      change Run _ _ _ _ [_, _, _, _, _, _, _, _, _, _, _, _, _, _, _, _, _, _, _, _, _, _, _, _, _, _] _
      refine run_cond_false rfl ?_
      refine run_exit ?_
      refine rnd_exit ?_
      refine blk_exit ?_
      refine run_seq ?_
      refine run_region ?_
      refine ops_val (ex_assign rfl) ?_
      refine ops_nil ?_
      change Run _ _ _ _ [_, _, _, _, _, _, _, _, _, _, _, _, _, _, _, _, _, _, _, _, _, _, _, _, _, _] _
      refine run_ret ?_
      refine fin_ret1 rfl rfl ?_
      exact ⟨rfl, H1⟩
theorem lay124 : lay Try.prog 6 124 [.int, .int, .flag, .int, .int, .int, .int] = true := by kernel_rfl
theorem agg124 : aggT Try.prog 124 = true := by kernel_rfl
theorem eqg124 : Try.prog.eqGuardType Try.prog.depth 124 = false := by kernel_rfl
set_option maxRecDepth 100000 in
set_option maxHeartbeats 4000000 in
theorem plainmark_any (B1 B2 : Option Addr) (k1 k2 : Nat) (xs : List thmark.X) (ok1 ok2 : Nat → Prop) (w0 : World) (hM1 : (Th.many thmark false).M w0 ok1 xs [.slice B1 xs.length k1]) (hM2 : (Th.many thmark false).M w0 ok2 xs [.slice B2 xs.length k2]) :
    Does Try.prog 59 #[.slice B1 xs.length k1, .slice B2 xs.length k2] w0 (fun r w' => r = .bool true ∧ Hp w0 w' [] []) := by
  refine does_of Try.func59 Try.ntmps59 rfl ?_
  change Run _ _ _ _ [.slice B1 xs.length k1, .slice B2 xs.length k2, undef, undef, undef, undef, undef, undef, undef, undef, undef, undef, undef, undef, undef, undef, undef, undef, undef, undef, undef, undef, undef, undef, undef, undef] _
  have H := Hp.refl w0
  obtain ⟨D1, kk1, cl1, heq1, hz1, hrd1, _, _, hel1⟩ := hM1
  simp only [List.cons.injEq, Value.slice.injEq, and_true, true_and] at heq1
  obtain ⟨rfl, rfl⟩ := heq1
  obtain ⟨D2, kk2, cl2, heq2, hz2, hrd2, _, _, hel2⟩ := hM2
  simp only [List.cons.injEq, Value.slice.injEq, and_true, true_and] at heq2
  obtain ⟨rfl, rfl⟩ := heq2
  have hlm := hz1.1
  refine run_seq ?_
  refine run_region ?_
  refine ops_val (ex_assign rfl) ?_
  refine ops_nil ?_
  change Run _ _ _ _ [_, _, _, _, _, _, _, _, _, _, _, _, _, _, _, _, _, _, _, _, _, _, _, _, _, _] _
  refine run_seq ?_
  refine run_seq ?_
  refine run_region ?_
  refine ops_val (ex_move rfl) ?_
  refine ops_val (ex_len_slice Try.underlying57 rfl) ?_
  refine ops_val (ex_move rfl) ?_
  refine ops_val (ex_len_slice Try.underlying57 rfl) ?_
  change Ops _ _ _ _ _ _ [_, _, _, _, _, _, _, _, _, _, _, _, _, _, _, _, _, _, _, _, _, _, _, _, _, _] _
  refine ops_false (ex_neq rfl rfl) (by simp) ?_
  refine ops_nil ?_
  change Run _ _ _ _ [_, _, _, _, _, _, _, _, _, _, _, _, _, _, _, _, _, _, _, _, _, _, _, _, _, _] _
  refine run_cond_false rfl ?_
  refine run_skip ?_
  refine run_seq ?_
  refine run_seq ?_
  refine run_region ?_
  refine ops_val (ex_assign rfl) ?_
  refine ops_nil ?_
  change Run _ _ _ _ [_, _, _, _, _, _, _, _, _, _, _, _, _, _, _, _, _, _, _, _, _, _, _, _, _, _] _
  refine run_block ?_
  refine run_loop (fun n l w => ∃ (q : Nat) (y : Int), xs.length - q = n ∧ Fits [some (.slice B1 xs.length k1), some (.slice B2 xs.length k2), none, none, none, some (.int .i64 y), none, none, none, none, none, none, none, none, none, none, none, none, none, none, none, none, none, none, none, none] l ∧ y = q ∧ q ≤ xs.length ∧ Hp w0 w [] []) (xs.length) ?_ ?_
  · exact ⟨0, _, rfl, (fs (fs (fn (fn (fn (fs (fn (fn (fn (fn (fn (fn (fn (fn (fn (fn (fn (fn (fn (fn (fn (fn (fn (fn (fn (fn f0)))))))))))))))))))))))))), rfl, Nat.zero_le _, H⟩
  · rintro n l w1 ⟨q, y, rfl, hfit, rfl, hq, H1⟩
    obtain ⟨j, rfl⟩ := hfit.open
    change Run _ _ _ _ [_, _, _, _, _, _, _, _, _, _, _, _, _, _, _, _, _, _, _, _, _, _, _, _, _, _] _
    clear hfit
    refine run_seq ?_
    refine run_seq ?_
    refine run_region ?_
    refine ops_val (ex_move rfl) ?_
    refine ops_val (ex_move rfl) ?_
    refine ops_val (ex_len_slice Try.underlying57 rfl) ?_
    refine ops_test (ex_lss rfl rfl) (fun hp14 => ?_) (fun hp14 => ?_)
    · have hql : q < xs.length := by omega
      obtain ⟨p1, hp1⟩ := hrd1.some_ (by omega)
      subst hp1
      obtain ⟨p2, hp2⟩ := hrd2.some_ (by omega)
      subst hp2
      have e12 := plain_one (hel1 q hql) (hel2 q hql) rfl
      have hln : ((cl1.drop (q * 7)).take 7).length = 7 := elem_len hrd1 hql
      refine ops_nil ?_
      change Run _ _ _ _ [_, _, _, _, _, _, _, _, _, _, _, _, _, _, _, _, _, _, _, _, _, _, _, _, _, _] _
      refine run_cond_true rfl ?_
      refine run_skip ?_
      refine run_seq ?_
      refine run_block ?_
      refine run_seq ?_
      refine run_still mixed (by kernel_rfl) ?_
      rintro w2 hw2
      have H2 := Hp.drew H1; rw [← hw2] at H2
      refine still_val (ex_move rfl) ?_
      refine still_val (ex_move rfl) ?_
      refine still_val (ex_idx Try.underlying57 ty124 rfl rfl rfl hql rfl) ?_
      refine still_val (ex_loadN ty124 rfl (vs := ((cl1.drop (q * 7)).take 7)) hln ((elem_cl (S := []) hrd1 hql (by simp)).to H2).cell) ?_
      change Still _ _ _ _ _ _ [_, _, _, _, _, _, _, _, _, _, _, _, _, _, _, _, _, _, _, _, _, _, _, _, _, _]
      refine still_val (ex_move rfl) ?_
      refine still_val (ex_move rfl) ?_
      refine still_val (ex_idx Try.underlying57 ty124 rfl rfl rfl hql rfl) ?_
      refine still_val (ex_loadN ty124 rfl (vs := ((cl1.drop (q * 7)).take 7)) hln (by rw [show ((cl1.drop (q * 7)).take 7) = ((cl2.drop (q * 7)).take 7) from e12.symm]; exact ((elem_cl (S := []) hrd2 hql (by simp)).to H2).cell)) ?_
      change Still _ _ _ _ _ _ [_, _, _, _, _, _, _, _, _, _, _, _, _, _, _, _, _, _, _, _, _, _, _, _, _, _]
      refine still_val (ex_neq_same lay124 (by decide) rfl agg124 eqg124 (hel1 q hql) rfl rfl) ?_
      refine still_nil ?_
      change Run _ _ _ _ [_, _, _, _, _, _, _, _, _, _, _, _, _, _, _, _, _, _, _, _, _, _, _, _, _, _] _
      refine run_cond_false rfl ?_
      refine run_skip ?_
      refine run_nil (blk_normal ?_)
      refine run_region ?_
      refine ops_val (ex_move rfl) ?_
      refine ops_val (ex_add rfl rfl (IntWalk.i64_in _ (by omega))) ?_
      refine ops_val (ex_assign rfl) ?_
      refine ops_nil ?_
      change Run _ _ _ _ [_, _, _, _, _, _, _, _, _, _, _, _, _, _, _, _, _, _, _, _, _, _, _, _, _, _] _
      refine run_nil (rnd_normal ?_)
      exact ⟨xs.length - (q + 1), by omega, q + 1, _, rfl, (fs (fs (fn (fn (fn (fs (fn (fn (fn (fn (fn (fn (fn (fn (fn (fn (fn (fn (fn (fn (fn (fn (fn (fn (fn (fn f0)))))))))))))))))))))))))), rfl, by omega, H2⟩
    · skip
      refine ops_nil ?_
      change Run _ _ _ _ [_, _, _, _, _, _, _, _, _, _, _, _, _, _, _, _, _, _, _, _, _, _, _, _, _, _] _
      refine run_cond_false rfl ?_
      refine run_exit ?_
      refine rnd_exit ?_
      refine blk_exit ?_
      refine run_seq ?_
      refine run_region ?_
      refine ops_val (ex_assign rfl) ?_
      refine ops_nil ?_
      change Run _ _ _ _ [_, _, _, _, _, _, _, _, _, _, _, _, _, _, _, _, _, _, _, _, _, _, _, _, _, _] _
      refine run_ret ?_
      refine fin_ret1 rfl rfl ?_
      exact ⟨rfl, H1⟩
theorem lay25 : lay Try.prog 6 25 [.int, .int, .int, .text, .text, .int, .int] = true := by kernel_rfl
theorem agg25 : aggT Try.prog 25 = true := by kernel_rfl
theorem eqg25 : Try.prog.eqGuardType Try.prog.depth 25 = false := by kernel_rfl
set_option maxRecDepth 100000 in
set_option maxHeartbeats 4000000 in
theorem schartF_any (x : thchartF.X) (c1 c2 : List Value) (ok1 ok2 : Nat → Prop) (w0 : World) (hM1 : thchartF.M w0 ok1 x c1) (hM2 : thchartF.M w0 ok2 x c2) (hsh : Short (thchartF.fl x)) :
    Does Try.prog 30 #[.agg c1.toArray, .agg c2.toArray] w0 (fun r w' => r = .bool true ∧ Hp w0 w' [] []) := by
  refine does_of Try.func30 Try.ntmps30 rfl ?_
  change Run _ _ _ _ [.agg c1.toArray, .agg c2.toArray, undef, undef, undef, undef, undef, undef, undef, undef, undef, undef, undef, undef, undef, undef, undef, undef, undef, undef, undef, undef, undef, undef, undef, undef, undef, undef, undef, undef, undef, undef, undef, undef, undef, undef, undef, undef, undef, undef, undef, undef, undef, undef, undef] _
  have H := Hp.refl w0
  have hl1 := thchartF.len hM1
  have hl2 := thchartF.len hM2
  have hS1_0 := (Th.fst (Th.fst (Th.fst hM1)))
  have hA1_0 := At.castM (o' := 0) (cs := c1) hS1_0 (At.of_take (At.of_take (At.of_take (At.self _)))) (by decide)
  have hS2_0 := (Th.fst (Th.fst (Th.fst hM2)))
  have hA2_0 := At.castM (o' := 0) (cs := c2) hS2_0 (At.of_take (At.of_take (At.of_take (At.self _)))) (by decide)
  have hS1_1 := (Th.snd (Th.fst (Th.fst hM1)))
  have hA1_1 := At.castM (o' := 1) (cs := c1) hS1_1 (At.of_take (At.of_take (At.drop _ _))) (by decide)
  have hS2_1 := (Th.snd (Th.fst (Th.fst hM2)))
  have hA2_1 := At.castM (o' := 1) (cs := c2) hS2_1 (At.of_take (At.of_take (At.drop _ _))) (by decide)
  obtain ⟨B1_1, k1_1, cl1_1, hv1_1, _⟩ := id hS1_1
  rw [hv1_1] at hS1_1 hA1_1
  replace hS1_1 := many_free hS1_1
  obtain ⟨B2_1, k2_1, cl2_1, hv2_1, _⟩ := id hS2_1
  rw [hv2_1] at hS2_1 hA2_1
  replace hS2_1 := many_free hS2_1
  have hS1_2 := (Th.snd (Th.fst hM1))
  have hA1_2 := At.castM (o' := 2) (cs := c1) hS1_2 (At.of_take (At.drop _ _)) (by decide)
  have hS2_2 := (Th.snd (Th.fst hM2))
  have hA2_2 := At.castM (o' := 2) (cs := c2) hS2_2 (At.of_take (At.drop _ _)) (by decide)
  have hS1_3 := (Th.snd hM1)
  have hA1_3 := At.castM (o' := 11) (cs := c1) hS1_3 (At.drop _ _) (by decide)
  have hS2_3 := (Th.snd hM2)
  have hA2_3 := At.castM (o' := 11) (cs := c2) hS2_3 (At.drop _ _) (by decide)
  obtain ⟨B1_3, k1_3, cl1_3, hv1_3, _⟩ := id hS1_3
  rw [hv1_3] at hS1_3 hA1_3
  replace hS1_3 := many_free hS1_3
  obtain ⟨B2_3, k2_3, cl2_3, hv2_3, _⟩ := id hS2_3
  rw [hv2_3] at hS2_3 hA2_3
  replace hS2_3 := many_free hS2_3
  obtain ⟨hsr3, hss3⟩ := Short.app hsh
  obtain ⟨hsr2, hss2⟩ := Short.app hsr3
  obtain ⟨hsr1, hss1⟩ := Short.app hsr2
  have hss0 := hsr1
  obtain ⟨n0, hx0, hv0, _, _⟩ := get_int hS1_0 0 rfl
  have hu0 := and_int hS2_0 hx0
  replace hv0 : c1[0]? = _ := hA1_0 0 _ hv0
  replace hu0 : c2[0]? = _ := hA2_0 0 _ hu0
  have hv1 : c1[1]? = some (.slice B1_1 _ k1_1) := hA1_1 0 _ rfl
  have hu1 : c2[1]? = some (.slice B2_1 _ k2_1) := hA2_1 0 _ rfl
  obtain ⟨n2, hx2, hv2, _, _⟩ := get_int hS1_2 0 rfl
  have hu2 := and_int hS2_2 hx2
  replace hv2 : c1[2]? = _ := hA1_2 0 _ hv2
  replace hu2 : c2[2]? = _ := hA2_2 0 _ hu2
  obtain ⟨n3, hx3, hv3, _, _⟩ := get_int hS1_2 1 rfl
  have hu3 := and_int hS2_2 hx3
  replace hv3 : c1[3]? = _ := hA1_2 1 _ hv3
  replace hu3 : c2[3]? = _ := hA2_2 1 _ hu3
  have hg1_4 := Th.part hS1_2 2 7
  have hg2_4 := Th.part hS2_2 2 7
  have ht1_4 := At.cast (o' := 4) (At.trans hA1_2 (At.sub _ 2 7)) (by decide)
  have ht2_4 := At.cast (o' := 4) (At.trans hA2_2 (At.sub _ 2 7)) (by decide)
  have hl104 := part_len hS1_2 (k := 2) (n := 7) (by decide)
  have hm104 := part_len hS2_2 (k := 2) (n := 7) (by decide)
  have hp4 := plain_one hg1_4 hg2_4 rfl
  have hv11 : c1[11]? = some (.slice B1_3 _ k1_3) := hA1_3 0 _ rfl
  have hu11 : c2[11]? = some (.slice B2_3 _ k2_3) := hA2_3 0 _ rfl
  refine run_seq ?_
  refine run_region ?_
  refine ops_box rfl rfl H ?_
  intro w1 g1 H1 hg1
  refine ops_box rfl rfl H1 ?_
  intro w2 g2 H2 hg2
  refine ops_val (ex_assign rfl) ?_
  refine ops_nil ?_
  change Run _ _ _ _ [_, _, _, _, _, _, _, _, _, _, _, _, _, _, _, _, _, _, _, _, _, _, _, _, _, _, _, _, _, _, _, _, _, _, _, _, _, _, _, _, _, _, _, _, _] _
  refine run_seq ?_
  refine run_region ?_
  refine ops_val (ex_fieldAddr fl59_0 rfl) ?_
  refine ops_val (ex_load ty3 rfl (H2.cell (i := 0) rfl hv0)) ?_
  refine ops_val (ex_fieldAddr fl59_0 rfl) ?_
  refine ops_val (ex_load ty3 rfl (H2.cell (i := 1) rfl hu0)) ?_
  change Ops _ _ _ _ _ _ [_, _, _, _, _, _, _, _, _, _, _, _, _, _, _, _, _, _, _, _, _, _, _, _, _, _, _, _, _, _, _, _, _, _, _, _, _, _, _, _, _, _, _, _, _] _
  refine ops_true (ex_eql rfl rfl) (rfl) ?_
  refine ops_val (ex_move rfl) ?_
  change Ops _ _ _ _ _ _ [_, _, _, _, _, _, _, _, _, _, _, _, _, _, _, _, _, _, _, _, _, _, _, _, _, _, _, _, _, _, _, _, _, _, _, _, _, _, _, _, _, _, _, _, _] _
  refine ops_yes rfl ?_
  refine ops_val (ex_fieldAddr fl59_1 rfl) ?_
  refine ops_yes rfl ?_
  refine ops_val (ex_load ty56 rfl (H2.cell (i := 0) rfl hv1)) ?_
  change Ops _ _ _ _ _ _ [_, _, _, _, _, _, _, _, _, _, _, _, _, _, _, _, _, _, _, _, _, _, _, _, _, _, _, _, _, _, _, _, _, _, _, _, _, _, _, _, _, _, _, _, _] _
  refine ops_yes rfl ?_
  refine ops_val (ex_fieldAddr fl59_1 rfl) ?_
  refine ops_yes rfl ?_
  refine ops_val (ex_load ty56 rfl (H2.cell (i := 1) rfl hu1)) ?_
  change Ops _ _ _ _ _ _ [_, _, _, _, _, _, _, _, _, _, _, _, _, _, _, _, _, _, _, _, _, _, _, _, _, _, _, _, _, _, _, _, _, _, _, _, _, _, _, _, _, _, _, _, _] _
  refine ops_yes rfl ?_
  refine ops_call_val (ex_call gf58 rfl) (plainplace_any _ _ _ _ _ _ _ _ (Th.to _ hS1_1 H2 (fun _ _ => by simp)) (Th.to _ hS2_1 H2 (fun _ _ => by simp))) ?_
  intro w3 Hd
  have H3 := H2.call0 Hd
  refine ops_val (ex_pick_t rfl rfl) ?_
  refine ops_val (ex_move rfl) ?_
  change Ops _ _ _ _ _ _ [_, _, _, _, _, _, _, _, _, _, _, _, _, _, _, _, _, _, _, _, _, _, _, _, _, _, _, _, _, _, _, _, _, _, _, _, _, _, _, _, _, _, _, _, _] _
  refine ops_yes rfl ?_
  refine ops_val (ex_fieldAddr fl59_2 rfl) ?_
  refine ops_yes rfl ?_
  refine ops_val (ex_load ty3 rfl (H3.cell (i := 0) rfl hv2)) ?_
  change Ops _ _ _ _ _ _ [_, _, _, _, _, _, _, _, _, _, _, _, _, _, _, _, _, _, _, _, _, _, _, _, _, _, _, _, _, _, _, _, _, _, _, _, _, _, _, _, _, _, _, _, _] _
  refine ops_yes rfl ?_
  refine ops_val (ex_fieldAddr fl59_2 rfl) ?_
  refine ops_yes rfl ?_
  refine ops_val (ex_load ty3 rfl (H3.cell (i := 1) rfl hu2)) ?_
  change Ops _ _ _ _ _ _ [_, _, _, _, _, _, _, _, _, _, _, _, _, _, _, _, _, _, _, _, _, _, _, _, _, _, _, _, _, _, _, _, _, _, _, _, _, _, _, _, _, _, _, _, _] _
  refine ops_yes rfl ?_
  refine ops_true (ex_eql rfl rfl) (rfl) ?_
  refine ops_val (ex_pick_t rfl rfl) ?_
  refine ops_val (ex_move rfl) ?_
  change Ops _ _ _ _ _ _ [_, _, _, _, _, _, _, _, _, _, _, _, _, _, _, _, _, _, _, _, _, _, _, _, _, _, _, _, _, _, _, _, _, _, _, _, _, _, _, _, _, _, _, _, _] _
  refine ops_yes rfl ?_
  refine ops_val (ex_fieldAddr fl59_3 rfl) ?_
  refine ops_yes rfl ?_
  refine ops_val (ex_load ty3 rfl (H3.cell (i := 0) rfl hv3)) ?_
  change Ops _ _ _ _ _ _ [_, _, _, _, _, _, _, _, _, _, _, _, _, _, _, _, _, _, _, _, _, _, _, _, _, _, _, _, _, _, _, _, _, _, _, _, _, _, _, _, _, _, _, _, _] _
  refine ops_yes rfl ?_
  refine ops_val (ex_fieldAddr fl59_3 rfl) ?_
  refine ops_yes rfl ?_
  refine ops_val (ex_load ty3 rfl (H3.cell (i := 1) rfl hu3)) ?_
  change Ops _ _ _ _ _ _ [_, _, _, _, _, _, _, _, _, _, _, _, _, _, _, _, _, _, _, _, _, _, _, _, _, _, _, _, _, _, _, _, _, _, _, _, _, _, _, _, _, _, _, _, _] _
  refine ops_yes rfl ?_
  refine ops_true (ex_eql rfl rfl) (rfl) ?_
  refine ops_val (ex_pick_t rfl rfl) ?_
  refine ops_val (ex_move rfl) ?_
  change Ops _ _ _ _ _ _ [_, _, _, _, _, _, _, _, _, _, _, _, _, _, _, _, _, _, _, _, _, _, _, _, _, _, _, _, _, _, _, _, _, _, _, _, _, _, _, _, _, _, _, _, _] _
  refine ops_yes rfl ?_
  refine ops_val (ex_fieldAddr fl59_4 rfl) ?_
  refine ops_yes rfl ?_
  refine ops_val (ex_loadN ty25 rfl (vs := _) hl104 (H3.cellsAt (i := 0) rfl ht1_4)) ?_
  change Ops _ _ _ _ _ _ [_, _, _, _, _, _, _, _, _, _, _, _, _, _, _, _, _, _, _, _, _, _, _, _, _, _, _, _, _, _, _, _, _, _, _, _, _, _, _, _, _, _, _, _, _] _
  refine ops_yes rfl ?_
  refine ops_val (ex_fieldAddr fl59_4 rfl) ?_
  refine ops_yes rfl ?_
  refine ops_val (ex_loadN ty25 rfl (vs := _) hl104 (by rw [← hp4]; exact H3.cellsAt (i := 1) rfl ht2_4)) ?_
  change Ops _ _ _ _ _ _ [_, _, _, _, _, _, _, _, _, _, _, _, _, _, _, _, _, _, _, _, _, _, _, _, _, _, _, _, _, _, _, _, _, _, _, _, _, _, _, _, _, _, _, _, _] _
  refine ops_yes rfl ?_
  refine ops_val (ex_eql_same lay25 (by decide) rfl agg25 eqg25 hg1_4 rfl rfl) ?_
  refine ops_val (ex_pick_t rfl rfl) ?_
  refine ops_val (ex_move rfl) ?_
  change Ops _ _ _ _ _ _ [_, _, _, _, _, _, _, _, _, _, _, _, _, _, _, _, _, _, _, _, _, _, _, _, _, _, _, _, _, _, _, _, _, _, _, _, _, _, _, _, _, _, _, _, _] _
  refine ops_yes rfl ?_
  refine ops_val (ex_fieldAddr fl59_5 rfl) ?_
  refine ops_yes rfl ?_
  refine ops_val (ex_load ty57 rfl (H3.cell (i := 0) rfl hv11)) ?_
  change Ops _ _ _ _ _ _ [_, _, _, _, _, _, _, _, _, _, _, _, _, _, _, _, _, _, _, _, _, _, _, _, _, _, _, _, _, _, _, _, _, _, _, _, _, _, _, _, _, _, _, _, _] _
  refine ops_yes rfl ?_
  refine ops_val (ex_fieldAddr fl59_5 rfl) ?_
  refine ops_yes rfl ?_
  refine ops_val (ex_load ty57 rfl (H3.cell (i := 1) rfl hu11)) ?_
  change Ops _ _ _ _ _ _ [_, _, _, _, _, _, _, _, _, _, _, _, _, _, _, _, _, _, _, _, _, _, _, _, _, _, _, _, _, _, _, _, _, _, _, _, _, _, _, _, _, _, _, _, _] _
  refine ops_yes rfl ?_
  refine ops_call_val (ex_call gf59 rfl) (plainmark_any _ _ _ _ _ _ _ _ (Th.to _ hS1_3 H3 (fun _ _ => by simp)) (Th.to _ hS2_3 H3 (fun _ _ => by simp))) ?_
  intro w4 Hd
  have H4 := H3.call0 Hd
  refine ops_val (ex_pick_t rfl rfl) ?_
  refine ops_val (ex_assign rfl) ?_
  refine ops_nil ?_
  change Run _ _ _ _ [_, _, _, _, _, _, _, _, _, _, _, _, _, _, _, _, _, _, _, _, _, _, _, _, _, _, _, _, _, _, _, _, _, _, _, _, _, _, _, _, _, _, _, _, _] _
  refine run_ret ?_
  refine fin_ret1 rfl rfl ?_
  exact ⟨rfl, H4.pick [] (by decide)⟩
end Go.Proofs.Ytoeobicpdeklaaa
