/- Walks of layer 2, printed by wip/gen/codec.py. -/
import Derived.Test.YtoeobicpdeklaaaBig
import Derived.Test.YtoeobicpdeklaaaWireP1
import Derived.Test.YtoeobicpdeklaaaWireJ0
import Derived.Test.YtoeobicpdeklaaaLst
namespace Go.Proofs.Ytoeobicpdeklaaa
open Go Go.RowKit
set_option linter.unusedVariables false
attribute [local irreducible] Still Ops Does Cd
set_option maxRecDepth 100000 in
set_option maxHeartbeats 4000000 in
theorem slvote_any (B1 B2 : Option Addr) (k1 k2 : Nat) (xs : List thvote.X) (ok1 ok2 : Nat → Prop) (w0 : World) (hM1 : (Th.many thvote false).M w0 ok1 xs [.slice B1 xs.length k1]) (hM2 : (Th.many thvote false).M w0 ok2 xs [.slice B2 xs.length k2]) (hsh : Short ((Th.many thvote false).fl xs)) :
    Does Try.prog 110 #[.slice B1 xs.length k1, .slice B2 xs.length k2, .func (.func 52) #[] #[]] w0 (fun r w' => r = .bool true ∧ Hp w0 w' [] []) := by
  refine does_of Try.func110 Try.ntmps110 rfl ?_
  change Run _ _ _ _ [.slice B1 xs.length k1, .slice B2 xs.length k2, .func (.func 52) #[] #[], undef, undef, undef, undef, undef, undef, undef, undef, undef, undef, undef, undef, undef, undef, undef, undef, undef, undef, undef, undef, undef, undef, undef, undef, undef, undef, undef] _
  have H := Hp.refl w0
  obtain ⟨D1, kk1, cl1, heq1, hz1, hrd1, _, _, hel1⟩ := hM1
  simp only [List.cons.injEq, Value.slice.injEq, and_true, true_and] at heq1
  obtain ⟨rfl, rfl⟩ := heq1
  obtain ⟨D2, kk2, cl2, heq2, hz2, hrd2, _, _, hel2⟩ := hM2
  simp only [List.cons.injEq, Value.slice.injEq, and_true, true_and] at heq2
  obtain ⟨rfl, rfl⟩ := heq2
  have hlm := hz1.1
  refine run_seq ?_
  refine run_region ?_
  refine ops_val (ex_assign rfl) ?_
  refine ops_nil ?_
  change Run _ _ _ _ [_, _, _, _, _, _, _, _, _, _, _, _, _, _, _, _, _, _, _, _, _, _, _, _, _, _, _, _, _, _] _
  refine run_seq ?_
  refine run_seq ?_
  refine run_region ?_
  refine ops_val (ex_move rfl) ?_
  refine ops_val (ex_len_slice Try.underlying66 rfl) ?_
  refine ops_val (ex_move rfl) ?_
  refine ops_val (ex_len_slice Try.underlying66 rfl) ?_
  change Ops _ _ _ _ _ _ [_, _, _, _, _, _, _, _, _, _, _, _, _, _, _, _, _, _, _, _, _, _, _, _, _, _, _, _, _, _] _
  refine ops_false (ex_neq rfl rfl) (by simp) ?_
  refine ops_nil ?_
  change Run _ _ _ _ [_, _, _, _, _, _, _, _, _, _, _, _, _, _, _, _, _, _, _, _, _, _, _, _, _, _, _, _, _, _] _
  refine run_cond_false rfl ?_
  refine run_skip ?_
  refine run_seq ?_
  refine run_seq ?_
  refine run_region ?_
  refine ops_val (ex_assign rfl) ?_
  refine ops_nil ?_
  change Run _ _ _ _ [_, _, _, _, _, _, _, _, _, _, _, _, _, _, _, _, _, _, _, _, _, _, _, _, _, _, _, _, _, _] _
  refine run_block ?_
  refine run_loop (fun n l w => ∃ (q : Nat) (y : Int), xs.length - q = n ∧ Fits [some (.slice B1 xs.length k1), some (.slice B2 xs.length k2), some (.func (.func 52) #[] #[]), none, none, none, none, some (.int .i64 y), none, none, none, none, none, none, none, none, none, none, none, none, none, none, none, none, none, none, none, none, none, none] l ∧ y = q ∧ q ≤ xs.length ∧ Hp w0 w [] []) (xs.length) ?_ ?_
  · exact ⟨0, _, rfl, (fs (fs (fs (fn (fn (fn (fn (fs (fn (fn (fn (fn (fn (fn (fn (fn (fn (fn (fn (fn (fn (fn (fn (fn (fn (fn (fn (fn (fn (fn f0)))))))))))))))))))))))))))))), rfl, Nat.zero_le _, H⟩
  · rintro n l w1 ⟨q, y, rfl, hfit, rfl, hq, H1⟩
    obtain ⟨j, rfl⟩ := hfit.open
    change Run _ _ _ _ [_, _, _, _, _, _, _, _, _, _, _, _, _, _, _, _, _, _, _, _, _, _, _, _, _, _, _, _, _, _] _
    clear hfit
    refine run_seq ?_
    refine run_seq ?_
    refine run_region ?_
    refine ops_val (ex_move rfl) ?_
    refine ops_val (ex_move rfl) ?_
    refine ops_val (ex_len_slice Try.underlying66 rfl) ?_
    refine ops_test (ex_lss rfl rfl) (fun hp16 => ?_) (fun hp16 => ?_)
    · have hql : q < xs.length := by omega
      obtain ⟨p1, hp1⟩ := hrd1.some_ (by omega)
      subst hp1
      obtain ⟨p2, hp2⟩ := hrd2.some_ (by omega)
      subst hp2
      have hln1 : ((cl1.drop (q * 4)).take 4).length = 4 := elem_len hrd1 hql
      have hln2 : ((cl2.drop (q * 4)).take 4).length = 4 := elem_len hrd2 hql
      refine ops_nil ?_
      change Run _ _ _ _ [_, _, _, _, _, _, _, _, _, _, _, _, _, _, _, _, _, _, _, _, _, _, _, _, _, _, _, _, _, _] _
      refine run_cond_true rfl ?_
      refine run_skip ?_
      refine run_seq ?_
      refine run_block ?_
      refine run_seq ?_
      refine run_tail 9 mixed (by kernel_rfl) ?_
      rintro w2 hw2
      have H2 := Hp.drew H1; rw [← hw2] at H2
      refine still_val (ex_move rfl) ?_
      refine still_val (ex_move rfl) ?_
      refine still_val (ex_move rfl) ?_
      refine still_val (ex_idx Try.underlying66 ty44 rfl rfl rfl hql rfl) ?_
      change Still _ _ _ _ _ _ [_, _, _, _, _, _, _, _, _, _, _, _, _, _, _, _, _, _, _, _, _, _, _, _, _, _, _, _, _, _]
      refine still_val (ex_loadN ty44 rfl (vs := ((cl1.drop (q * 4)).take 4)) hln1 ((elem_cl (S := []) hrd1 hql (by simp)).to H2).cell) ?_
      refine still_val (ex_move rfl) ?_
      refine still_val (ex_move rfl) ?_
      refine still_val (ex_idx Try.underlying66 ty44 rfl rfl rfl hql rfl) ?_
      change Still _ _ _ _ _ _ [_, _, _, _, _, _, _, _, _, _, _, _, _, _, _, _, _, _, _, _, _, _, _, _, _, _, _, _, _, _]
      refine still_val (ex_loadN ty44 rfl (vs := ((cl2.drop (q * 4)).take 4)) hln2 ((elem_cl (S := []) hrd2 hql (by simp)).to H2).cell) ?_
      refine still_nil ?_
      refine ops_call_val (ex_call_val (cap := []) gf52 rfl rfl) (svote_any _ _ _ _ _ _ (Th.to _ (hel1 q hql) H2 (fun _ _ => by simp)) (Th.to _ (hel2 q hql) H2 (fun _ _ => by simp)) (Short.at hsh hql)) ?_
      intro w3 Hd
      have H3 := H2.call0 Hd
      refine ops_val (ex_not rfl) ?_
      refine ops_nil ?_
      change Run _ _ _ _ [_, _, _, _, _, _, _, _, _, _, _, _, _, _, _, _, _, _, _, _, _, _, _, _, _, _, _, _, _, _] _
      refine run_cond_false rfl ?_
      refine run_skip ?_
      refine run_nil (blk_normal ?_)
      refine run_region ?_
      refine ops_val (ex_move rfl) ?_
      refine ops_val (ex_add rfl rfl (IntWalk.i64_in _ (by omega))) ?_
      refine ops_val (ex_assign rfl) ?_
      refine ops_nil ?_
      change Run _ _ _ _ [_, _, _, _, _, _, _, _, _, _, _, _, _, _, _, _, _, _, _, _, _, _, _, _, _, _, _, _, _, _] _
      refine run_nil (rnd_normal ?_)
      exact ⟨xs.length - (q + 1), by omega, q + 1, _, rfl, (fs (fs (fs (fn (fn (fn (fn (fs (fn (fn (fn (fn (fn (fn (fn (fn (fn (fn (fn (fn (fn (fn (fn (fn (fn (fn (fn (fn (fn (fn f0)))))))))))))))))))))))))))))), rfl, by omega, H3⟩
    · skip
      refine ops_nil ?_
      change Run _ _ _ _ [_, _, _, _, _, _, _, _, _, _, _, _, _, _, _, _, _, _, _, _, _, _, _, _, _, _, _, _, _, _] _
      refine run_cond_false rfl ?_
      refine run_exit ?_
      refine rnd_exit ?_
      refine blk_exit ?_
      refine run_seq ?_
      refine run_region ?_
      refine ops_val (ex_assign rfl) ?_
      refine ops_nil ?_
      change Run _ _ _ _ [_, _, _, _, _, _, _, _, _, _, _, _, _, _, _, _, _, _, _, _, _, _, _, _, _, _, _, _, _, _] _
      refine run_ret ?_
      refine fin_ret1 rfl rfl ?_
      exact ⟨rfl, H1⟩
set_option maxRecDepth 100000 in
set_option maxHeartbeats 4000000 in
theorem slistvote_any (B1 B2 : Option Addr) (k1 k2 : Nat) (xs : List thvote.X) (ok1 ok2 : Nat → Prop) (w0 : World) (hM1 : (Th.many thvote false).M w0 ok1 xs [.slice B1 xs.length k1]) (hM2 : (Th.many thvote false).M w0 ok2 xs [.slice B2 xs.length k2]) (hsh : Short ((Th.many thvote false).fl xs)) :
    Does Try.prog 65 #[.slice B1 xs.length k1, .slice B2 xs.length k2] w0 (fun r w' => r = .bool true ∧ Hp w0 w' [] []) := by
  refine does_of Try.func65 Try.ntmps65 rfl ?_
  change Run _ _ _ _ [.slice B1 xs.length k1, .slice B2 xs.length k2, undef, undef, undef, undef, undef, undef] _
  have H := Hp.refl w0
  refine run_seq ?_
  refine run_region ?_
  refine ops_val (ex_assign rfl) ?_
  refine ops_nil ?_
  change Run _ _ _ _ [_, _, _, _, _, _, _, _] _
  refine run_seq ?_
  refine run_region ?_
  refine ops_val (ex_move rfl) ?_
  refine ops_val (ex_move rfl) ?_
  refine ops_call_val (ex_call gf110 rfl) (slvote_any B1 B2 k1 k2 xs ok1 ok2 _ hM1 hM2 hsh) ?_
  intro w1 Hd
  have H1 := H.call0 Hd
  refine ops_val (ex_assign rfl) ?_
  refine ops_nil ?_
  change Run _ _ _ _ [_, _, _, _, _, _, _, _] _
  refine run_ret ?_
  refine fin_ret1 rfl rfl ?_
  exact ⟨rfl, H1⟩
set_option maxRecDepth 100000 in
set_option maxHeartbeats 4000000 in
theorem slentry_any (B1 B2 : Option Addr) (k1 k2 : Nat) (xs : List thentry.X) (ok1 ok2 : Nat → Prop) (w0 : World) (hM1 : (Th.many thentry false).M w0 ok1 xs [.slice B1 xs.length k1]) (hM2 : (Th.many thentry false).M w0 ok2 xs [.slice B2 xs.length k2]) (hsh : Short ((Th.many thentry false).fl xs)) :
    Does Try.prog 111 #[.slice B1 xs.length k1, .slice B2 xs.length k2, .func (.func 53) #[] #[]] w0 (fun r w' => r = .bool true ∧ Hp w0 w' [] []) := by
  refine does_of Try.func111 Try.ntmps111 rfl ?_
  change Run _ _ _ _ [.slice B1 xs.length k1, .slice B2 xs.length k2, .func (.func 53) #[] #[], undef, undef, undef, undef, undef, undef, undef, undef, undef, undef, undef, undef, undef, undef, undef, undef, undef, undef, undef, undef, undef, undef, undef, undef, undef, undef, undef] _
  have H := Hp.refl w0
  obtain ⟨D1, kk1, cl1, heq1, hz1, hrd1, _, _, hel1⟩ := hM1
  simp only [List.cons.injEq, Value.slice.injEq, and_true, true_and] at heq1
  obtain ⟨rfl, rfl⟩ := heq1
  obtain ⟨D2, kk2, cl2, heq2, hz2, hrd2, _, _, hel2⟩ := hM2
  simp only [List.cons.injEq, Value.slice.injEq, and_true, true_and] at heq2
  obtain ⟨rfl, rfl⟩ := heq2
  have hlm := hz1.1
  refine run_seq ?_
  refine run_region ?_
  refine ops_val (ex_assign rfl) ?_
  refine ops_nil ?_
  change Run _ _ _ _ [_, _, _, _, _, _, _, _, _, _, _, _, _, _, _, _, _, _, _, _, _, _, _, _, _, _, _, _, _, _] _
  refine run_seq ?_
  refine run_seq ?_
  refine run_region ?_
  refine ops_val (ex_move rfl) ?_
  refine ops_val (ex_len_slice Try.underlying67 rfl) ?_
  refine ops_val (ex_move rfl) ?_
  refine ops_val (ex_len_slice Try.underlying67 rfl) ?_
  change Ops _ _ _ _ _ _ [_, _, _, _, _, _, _, _, _, _, _, _, _, _, _, _, _, _, _, _, _, _, _, _, _, _, _, _, _, _] _
  refine ops_false (ex_neq rfl rfl) (by simp) ?_
  refine ops_nil ?_
  change Run _ _ _ _ [_, _, _, _, _, _, _, _, _, _, _, _, _, _, _, _, _, _, _, _, _, _, _, _, _, _, _, _, _, _] _
  refine run_cond_false rfl ?_
  refine run_skip ?_
  refine run_seq ?_
  refine run_seq ?_
  refine run_region ?_
  refine ops_val (ex_assign rfl) ?_
  refine ops_nil ?_
  change Run _ _ _ _ [_, _, _, _, _, _, _, _, _, _, _, _, _, _, _, _, _, _, _, _, _, _, _, _, _, _, _, _, _, _] _
  refine run_block ?_
  refine run_loop (fun n l w => ∃ (q : Nat) (y : Int), xs.length - q = n ∧ Fits [some (.slice B1 xs.length k1), some (.slice B2 xs.length k2), some (.func (.func 53) #[] #[]), none, none, none, none, some (.int .i64 y), none, none, none, none, none, none, none, none, none, none, none, none, none, none, none, none, none, none, none, none, none, none] l ∧ y = q ∧ q ≤ xs.length ∧ Hp w0 w [] []) (xs.length) ?_ ?_
  · exact ⟨0, _, rfl, (fs (fs (fs (fn (fn (fn (fn (fs (fn (fn (fn (fn (fn (fn (fn (fn (fn (fn (fn (fn (fn (fn (fn (fn (fn (fn (fn (fn (fn (fn f0)))))))))))))))))))))))))))))), rfl, Nat.zero_le _, H⟩
  · rintro n l w1 ⟨q, y, rfl, hfit, rfl, hq, H1⟩
    obtain ⟨j, rfl⟩ := hfit.open
    change Run _ _ _ _ [_, _, _, _, _, _, _, _, _, _, _, _, _, _, _, _, _, _, _, _, _, _, _, _, _, _, _, _, _, _] _
    clear hfit
    refine run_seq ?_
    refine run_seq ?_
    refine run_region ?_
    refine ops_val (ex_move rfl) ?_
    refine ops_val (ex_move rfl) ?_
    refine ops_val (ex_len_slice Try.underlying67 rfl) ?_
    refine ops_test (ex_lss rfl rfl) (fun hp16 => ?_) (fun hp16 => ?_)
    · have hql : q < xs.length := by omega
      obtain ⟨p1, hp1⟩ := hrd1.some_ (by omega)
      subst hp1
      obtain ⟨p2, hp2⟩ := hrd2.some_ (by omega)
      subst hp2
      have hln1 : ((cl1.drop (q * 2)).take 2).length = 2 := elem_len hrd1 hql
      have hln2 : ((cl2.drop (q * 2)).take 2).length = 2 := elem_len hrd2 hql
      refine ops_nil ?_
      change Run _ _ _ _ [_, _, _, _, _, _, _, _, _, _, _, _, _, _, _, _, _, _, _, _, _, _, _, _, _, _, _, _, _, _] _
      refine run_cond_true rfl ?_
      refine run_skip ?_
      refine run_seq ?_
      refine run_block ?_
      refine run_seq ?_
      refine run_tail 9 mixed (by kernel_rfl) ?_
      rintro w2 hw2
      have H2 := Hp.drew H1; rw [← hw2] at H2
      refine still_val (ex_move rfl) ?_
      refine still_val (ex_move rfl) ?_
      refine still_val (ex_move rfl) ?_
      refine still_val (ex_idx Try.underlying67 ty46 rfl rfl rfl hql rfl) ?_
      change Still _ _ _ _ _ _ [_, _, _, _, _, _, _, _, _, _, _, _, _, _, _, _, _, _, _, _, _, _, _, _, _, _, _, _, _, _]
      refine still_val (ex_loadN ty46 rfl (vs := ((cl1.drop (q * 2)).take 2)) hln1 ((elem_cl (S := []) hrd1 hql (by simp)).to H2).cell) ?_
      refine still_val (ex_move rfl) ?_
      refine still_val (ex_move rfl) ?_
      refine still_val (ex_idx Try.underlying67 ty46 rfl rfl rfl hql rfl) ?_
      change Still _ _ _ _ _ _ [_, _, _, _, _, _, _, _, _, _, _, _, _, _, _, _, _, _, _, _, _, _, _, _, _, _, _, _, _, _]
      refine still_val (ex_loadN ty46 rfl (vs := ((cl2.drop (q * 2)).take 2)) hln2 ((elem_cl (S := []) hrd2 hql (by simp)).to H2).cell) ?_
      refine still_nil ?_
      refine ops_call_val (ex_call_val (cap := []) gf53 rfl rfl) (sentry_any _ _ _ _ _ _ (Th.to _ (hel1 q hql) H2 (fun _ _ => by simp)) (Th.to _ (hel2 q hql) H2 (fun _ _ => by simp)) (Short.at hsh hql)) ?_
      intro w3 Hd
      have H3 := H2.call0 Hd
      refine ops_val (ex_not rfl) ?_
      refine ops_nil ?_
      change Run _ _ _ _ [_, _, _, _, _, _, _, _, _, _, _, _, _, _, _, _, _, _, _, _, _, _, _, _, _, _, _, _, _, _] _
      refine run_cond_false rfl ?_
      refine run_skip ?_
      refine run_nil (blk_normal ?_)
      refine run_region ?_
      refine ops_val (ex_move rfl) ?_
      refine ops_val (ex_add rfl rfl (IntWalk.i64_in _ (by omega))) ?_
      refine ops_val (ex_assign rfl) ?_
      refine ops_nil ?_
      change Run _ _ _ _ [_, _, _, _, _, _, _, _, _, _, _, _, _, _, _, _, _, _, _, _, _, _, _, _, _, _, _, _, _, _] _
      refine run_nil (rnd_normal ?_)
      exact ⟨xs.length - (q + 1), by omega, q + 1, _, rfl, (fs (fs (fs (fn (fn (fn (fn (fs (fn (fn (fn (fn (fn (fn (fn (fn (fn (fn (fn (fn (fn (fn (fn (fn (fn (fn (fn (fn (fn (fn f0)))))))))))))))))))))))))))))), rfl, by omega, H3⟩
    · skip
      refine ops_nil ?_
      change Run _ _ _ _ [_, _, _, _, _, _, _, _, _, _, _, _, _, _, _, _, _, _, _, _, _, _, _, _, _, _, _, _, _, _] _
      refine run_cond_false rfl ?_
      refine run_exit ?_
      refine rnd_exit ?_
      refine blk_exit ?_
      refine run_seq ?_
      refine run_region ?_
      refine ops_val (ex_assign rfl) ?_
      refine ops_nil ?_
      change Run _ _ _ _ [_, _, _, _, _, _, _, _, _, _, _, _, _, _, _, _, _, _, _, _, _, _, _, _, _, _, _, _, _, _] _
      refine run_ret ?_
      refine fin_ret1 rfl rfl ?_
      exact ⟨rfl, H1⟩
set_option maxRecDepth 100000 in
set_option maxHeartbeats 4000000 in
theorem slistentry_any (B1 B2 : Option Addr) (k1 k2 : Nat) (xs : List thentry.X) (ok1 ok2 : Nat → Prop) (w0 : World) (hM1 : (Th.many thentry false).M w0 ok1 xs [.slice B1 xs.length k1]) (hM2 : (Th.many thentry false).M w0 ok2 xs [.slice B2 xs.length k2]) (hsh : Short ((Th.many thentry false).fl xs)) :
    Does Try.prog 66 #[.slice B1 xs.length k1, .slice B2 xs.length k2] w0 (fun r w' => r = .bool true ∧ Hp w0 w' [] []) := by
  refine does_of Try.func66 Try.ntmps66 rfl ?_
  change Run _ _ _ _ [.slice B1 xs.length k1, .slice B2 xs.length k2, undef, undef, undef, undef, undef, undef] _
  have H := Hp.refl w0
  refine run_seq ?_
  refine run_region ?_
  refine ops_val (ex_assign rfl) ?_
  refine ops_nil ?_
  change Run _ _ _ _ [_, _, _, _, _, _, _, _] _
  refine run_seq ?_
  refine run_region ?_
  refine ops_val (ex_move rfl) ?_
  refine ops_val (ex_move rfl) ?_
  refine ops_call_val (ex_call gf111 rfl) (slentry_any B1 B2 k1 k2 xs ok1 ok2 _ hM1 hM2 hsh) ?_
  intro w1 Hd
  have H1 := H.call0 Hd
  refine ops_val (ex_assign rfl) ?_
  refine ops_nil ?_
  change Run _ _ _ _ [_, _, _, _, _, _, _, _] _
  refine run_ret ?_
  refine fin_ret1 rfl rfl ?_
  exact ⟨rfl, H1⟩
set_option maxRecDepth 100000 in
set_option maxHeartbeats 4000000 in
theorem spiece_any (x : List Fv) (c1 c2 : List Value) (ok1 ok2 : Nat → Prop) (w0 : World) (hM1 : thpiece.M w0 ok1 x c1) (hM2 : thpiece.M w0 ok2 x c2) (hsh : Short x) :
    Does Try.prog 67 #[.agg c1.toArray, .agg c2.toArray] w0 (fun r w' => r = .bool true ∧ Hp w0 w' [] []) := by
  refine does_of Try.func67 Try.ntmps67 rfl ?_
  change Run _ _ _ _ [.agg c1.toArray, .agg c2.toArray, undef, undef, undef, undef, undef, undef, undef, undef, undef, undef, undef, undef, undef, undef, undef, undef, undef, undef, undef, undef, undef, undef, undef, undef, undef, undef, undef, undef, undef] _
  have H := Hp.refl w0
  have hl1 := thpiece.len hM1
  have hl2 := thpiece.len hM2
  obtain ⟨n0, hx0, hv0, _, _⟩ := get_int hM1 0 rfl
  have hu0 := and_int hM2 hx0
  obtain ⟨n1, hx1, hv1, _, _⟩ := get_int hM1 1 rfl
  have hu1 := and_int hM2 hx1
  obtain ⟨n2, hx2, hv2, _⟩ := get_word hM1 2 rfl
  have hu2 := and_word hM2 hx2
  obtain ⟨n3, B3, k3, hx3, hv3, hr3, _⟩ := get_bytes hM1 3 rfl
  obtain ⟨C3, j3, hu3, hq3, _⟩ := and_bytes hM2 hx3
  have hs3 := hsh.get hx3
  refine run_seq ?_
  refine run_region ?_
  refine ops_box rfl rfl H ?_
  intro w1 g1 H1 hg1
  refine ops_box rfl rfl H1 ?_
  intro w2 g2 H2 hg2
  refine ops_val (ex_assign rfl) ?_
  refine ops_nil ?_
  change Run _ _ _ _ [_, _, _, _, _, _, _, _, _, _, _, _, _, _, _, _, _, _, _, _, _, _, _, _, _, _, _, _, _, _, _] _
  refine run_seq ?_
  refine run_region ?_
  refine ops_val (ex_fieldAddr fl70_0 rfl) ?_
  refine ops_val (ex_load ty3 rfl (H2.cell (i := 0) rfl hv0)) ?_
  refine ops_val (ex_fieldAddr fl70_0 rfl) ?_
  refine ops_val (ex_load ty3 rfl (H2.cell (i := 1) rfl hu0)) ?_
  change Ops _ _ _ _ _ _ [_, _, _, _, _, _, _, _, _, _, _, _, _, _, _, _, _, _, _, _, _, _, _, _, _, _, _, _, _, _, _] _
  refine ops_true (ex_eql rfl rfl) (rfl) ?_
  refine ops_val (ex_move rfl) ?_
  change Ops _ _ _ _ _ _ [_, _, _, _, _, _, _, _, _, _, _, _, _, _, _, _, _, _, _, _, _, _, _, _, _, _, _, _, _, _, _] _
  refine ops_yes rfl ?_
  refine ops_val (ex_fieldAddr fl70_1 rfl) ?_
  refine ops_yes rfl ?_
  refine ops_val (ex_load ty3 rfl (H2.cell (i := 0) rfl hv1)) ?_
  change Ops _ _ _ _ _ _ [_, _, _, _, _, _, _, _, _, _, _, _, _, _, _, _, _, _, _, _, _, _, _, _, _, _, _, _, _, _, _] _
  refine ops_yes rfl ?_
  refine ops_val (ex_fieldAddr fl70_1 rfl) ?_
  refine ops_yes rfl ?_
  refine ops_val (ex_load ty3 rfl (H2.cell (i := 1) rfl hu1)) ?_
  change Ops _ _ _ _ _ _ [_, _, _, _, _, _, _, _, _, _, _, _, _, _, _, _, _, _, _, _, _, _, _, _, _, _, _, _, _, _, _] _
  refine ops_yes rfl ?_
  refine ops_true (ex_eql rfl rfl) (rfl) ?_
  refine ops_val (ex_pick_t rfl rfl) ?_
  refine ops_val (ex_move rfl) ?_
  change Ops _ _ _ _ _ _ [_, _, _, _, _, _, _, _, _, _, _, _, _, _, _, _, _, _, _, _, _, _, _, _, _, _, _, _, _, _, _] _
  refine ops_yes rfl ?_
  refine ops_val (ex_fieldAddr fl70_2 rfl) ?_
  refine ops_yes rfl ?_
  refine ops_val (ex_load ty68 rfl (H2.cell (i := 0) rfl hv2)) ?_
  change Ops _ _ _ _ _ _ [_, _, _, _, _, _, _, _, _, _, _, _, _, _, _, _, _, _, _, _, _, _, _, _, _, _, _, _, _, _, _] _
  refine ops_yes rfl ?_
  refine ops_val (ex_fieldAddr fl70_2 rfl) ?_
  refine ops_yes rfl ?_
  refine ops_val (ex_load ty68 rfl (H2.cell (i := 1) rfl hu2)) ?_
  change Ops _ _ _ _ _ _ [_, _, _, _, _, _, _, _, _, _, _, _, _, _, _, _, _, _, _, _, _, _, _, _, _, _, _, _, _, _, _] _
  refine ops_yes rfl ?_
  refine ops_true (ex_eql rfl rfl) (rfl) ?_
  refine ops_val (ex_pick_t rfl rfl) ?_
  refine ops_val (ex_move rfl) ?_
  change Ops _ _ _ _ _ _ [_, _, _, _, _, _, _, _, _, _, _, _, _, _, _, _, _, _, _, _, _, _, _, _, _, _, _, _, _, _, _] _
  refine ops_yes rfl ?_
  refine ops_val (ex_fieldAddr fl70_3 rfl) ?_
  refine ops_yes rfl ?_
  refine ops_val (ex_load ty26 rfl (H2.cell (i := 0) rfl hv3)) ?_
  change Ops _ _ _ _ _ _ [_, _, _, _, _, _, _, _, _, _, _, _, _, _, _, _, _, _, _, _, _, _, _, _, _, _, _, _, _, _, _] _
  refine ops_yes rfl ?_
  refine ops_val (ex_fieldAddr fl70_3 rfl) ?_
  refine ops_yes rfl ?_
  refine ops_val (ex_load ty26 rfl (H2.cell (i := 1) rfl hu3)) ?_
  change Ops _ _ _ _ _ _ [_, _, _, _, _, _, _, _, _, _, _, _, _, _, _, _, _, _, _, _, _, _, _, _, _, _, _, _, _, _, _] _
  refine ops_yes rfl ?_
  have hk := bytes_any B3 C3 n3 n3 k3 j3 _ (hr3.to0 H2) (hq3.to0 H2) (by omega) (by omega)
  rw [decide_eq_true rfl] at hk
  refine ops_call_val (ex_call gf16 rfl) hk ?_
  intro w3 Hd
  have H3 := H2.call0 Hd
  refine ops_val (ex_pick_t rfl rfl) ?_
  refine ops_val (ex_assign rfl) ?_
  refine ops_nil ?_
  change Run _ _ _ _ [_, _, _, _, _, _, _, _, _, _, _, _, _, _, _, _, _, _, _, _, _, _, _, _, _, _, _, _, _, _, _] _
  refine run_ret ?_
  refine fin_ret1 rfl rfl ?_
  exact ⟨rfl, H3.pick [] (by decide)⟩
set_option maxRecDepth 100000 in
set_option maxHeartbeats 4000000 in
theorem sletter_any (x : thletter.X) (c1 c2 : List Value) (ok1 ok2 : Nat → Prop) (w0 : World) (hM1 : thletter.M w0 ok1 x c1) (hM2 : thletter.M w0 ok2 x c2) (hsh : Short (thletter.fl x)) :
    Does Try.prog 35 #[.agg c1.toArray, .agg c2.toArray] w0 (fun r w' => r = .bool true ∧ Hp w0 w' [] []) := by
  refine does_of Try.func35 Try.ntmps35 rfl ?_
  change Run _ _ _ _ [.agg c1.toArray, .agg c2.toArray, undef, undef, undef, undef, undef, undef, undef, undef, undef, undef, undef, undef, undef, undef, undef, undef, undef, undef, undef, undef, undef, undef, undef, undef, undef, undef, undef, undef, undef, undef, undef, undef, undef, undef, undef, undef, undef, undef, undef, undef, undef, undef, undef, undef, undef, undef, undef, undef, undef, undef, undef, undef, undef, undef, undef, undef, undef, undef, undef, undef, undef, undef, undef, undef] _
  have H := Hp.refl w0
  have hl1 := thletter.len hM1
  have hl2 := thletter.len hM2
  have hS1_0 := (Th.fst (Th.fst (Th.fst hM1)))
  have hA1_0 := At.castM (o' := 0) (cs := c1) hS1_0 (At.of_take (At.of_take (At.of_take (At.self _)))) (by decide)
  have hS2_0 := (Th.fst (Th.fst (Th.fst hM2)))
  have hA2_0 := At.castM (o' := 0) (cs := c2) hS2_0 (At.of_take (At.of_take (At.of_take (At.self _)))) (by decide)
  have hS1_1 := (Th.snd (Th.fst (Th.fst hM1)))
  have hA1_1 := At.castM (o' := 7) (cs := c1) hS1_1 (At.of_take (At.of_take (At.drop _ _))) (by decide)
  have hS2_1 := (Th.snd (Th.fst (Th.fst hM2)))
  have hA2_1 := At.castM (o' := 7) (cs := c2) hS2_1 (At.of_take (At.of_take (At.drop _ _))) (by decide)
  obtain ⟨B1_1, k1_1, cl1_1, hv1_1, _⟩ := id hS1_1
  rw [hv1_1] at hS1_1 hA1_1
  replace hS1_1 := many_free hS1_1
  obtain ⟨B2_1, k2_1, cl2_1, hv2_1, _⟩ := id hS2_1
  rw [hv2_1] at hS2_1 hA2_1
  replace hS2_1 := many_free hS2_1
  have hS1_2 := (Th.snd (Th.fst hM1))
  have hA1_2 := At.castM (o' := 8) (cs := c1) hS1_2 (At.of_take (At.drop _ _)) (by decide)
  have hS2_2 := (Th.snd (Th.fst hM2))
  have hA2_2 := At.castM (o' := 8) (cs := c2) hS2_2 (At.of_take (At.drop _ _)) (by decide)
  obtain ⟨B1_2, k1_2, cl1_2, hv1_2, _⟩ := id hS1_2
  rw [hv1_2] at hS1_2 hA1_2
  replace hS1_2 := many_free hS1_2
  obtain ⟨B2_2, k2_2, cl2_2, hv2_2, _⟩ := id hS2_2
  rw [hv2_2] at hS2_2 hA2_2
  replace hS2_2 := many_free hS2_2
  have hS1_3 := (Th.snd hM1)
  have hA1_3 := At.castM (o' := 9) (cs := c1) hS1_3 (At.drop _ _) (by decide)
  have hS2_3 := (Th.snd hM2)
  have hA2_3 := At.castM (o' := 9) (cs := c2) hS2_3 (At.drop _ _) (by decide)
  obtain ⟨hsr3, hss3⟩ := Short.app hsh
  obtain ⟨hsr2, hss2⟩ := Short.app hsr3
  obtain ⟨hsr1, hss1⟩ := Short.app hsr2
  have hss0 := hsr1
  obtain ⟨n0, hx0, hv0, _, _⟩ := get_int hS1_0 0 rfl
  have hu0 := and_int hS2_0 hx0
  replace hv0 : c1[0]? = _ := hA1_0 0 _ hv0
  replace hu0 : c2[0]? = _ := hA2_0 0 _ hu0
  obtain ⟨n1, hx1, hv1, _, _⟩ := get_int hS1_0 1 rfl
  have hu1 := and_int hS2_0 hx1
  replace hv1 : c1[1]? = _ := hA1_0 1 _ hv1
  replace hu1 : c2[1]? = _ := hA2_0 1 _ hu1
  obtain ⟨n2, hx2, hv2, _, _⟩ := get_int hS1_0 2 rfl
  have hu2 := and_int hS2_0 hx2
  replace hv2 : c1[2]? = _ := hA1_0 2 _ hv2
  replace hu2 : c2[2]? = _ := hA2_0 2 _ hu2
  have hg1_3 := Th.part hS1_0 3 2
  have hg2_3 := Th.part hS2_0 3 2
  have ht1_3 := At.cast (o' := 3) (At.trans hA1_0 (At.sub _ 3 2)) (by decide)
  have ht2_3 := At.cast (o' := 3) (At.trans hA2_0 (At.sub _ 3 2)) (by decide)
  have hl103 := part_len hS1_0 (k := 3) (n := 2) (by decide)
  have hm103 := part_len hS2_0 (k := 3) (n := 2) (by decide)
  have hp3 := plain_one hg1_3 hg2_3 rfl
  obtain ⟨n5, hx5, hv5, _, _⟩ := get_int hS1_0 5 rfl
  have hu5 := and_int hS2_0 hx5
  replace hv5 : c1[5]? = _ := hA1_0 5 _ hv5
  replace hu5 : c2[5]? = _ := hA2_0 5 _ hu5
  obtain ⟨n6, hx6, hv6, _, _⟩ := get_int hS1_0 6 rfl
  have hu6 := and_int hS2_0 hx6
  replace hv6 : c1[6]? = _ := hA1_0 6 _ hv6
  replace hu6 : c2[6]? = _ := hA2_0 6 _ hu6
  have hv7 : c1[7]? = some (.slice B1_1 _ k1_1) := hA1_1 0 _ rfl
  have hu7 : c2[7]? = some (.slice B2_1 _ k2_1) := hA2_1 0 _ rfl
  have hv8 : c1[8]? = some (.slice B1_2 _ k1_2) := hA1_2 0 _ rfl
  have hu8 : c2[8]? = some (.slice B2_2 _ k2_2) := hA2_2 0 _ rfl
  have hg1_9 := Th.part hS1_3 0 4
  have hg2_9 := Th.part hS2_3 0 4
  have ht1_9 := At.cast (o' := 9) (At.trans hA1_3 (At.sub _ 0 4)) (by decide)
  have ht2_9 := At.cast (o' := 9) (At.trans hA2_3 (At.sub _ 0 4)) (by decide)
  have hl109 := part_len hS1_3 (k := 0) (n := 4) (by decide)
  have hm109 := part_len hS2_3 (k := 0) (n := 4) (by decide)
  refine run_seq ?_
  refine run_region ?_
  refine ops_box rfl rfl H ?_
  intro w1 g1 H1 hg1
  refine ops_box rfl rfl H1 ?_
  intro w2 g2 H2 hg2
  refine ops_val (ex_assign rfl) ?_
  refine ops_nil ?_
  change Run _ _ _ _ [_, _, _, _, _, _, _, _, _, _, _, _, _, _, _, _, _, _, _, _, _, _, _, _, _, _, _, _, _, _, _, _, _, _, _, _, _, _, _, _, _, _, _, _, _, _, _, _, _, _, _, _, _, _, _, _, _, _, _, _, _, _, _, _, _, _] _
  refine run_seq ?_
  refine run_region ?_
  refine ops_val (ex_fieldAddr fl72_0 rfl) ?_
  refine ops_val (ex_load ty3 rfl (H2.cell (i := 0) rfl hv0)) ?_
  refine ops_val (ex_fieldAddr fl72_0 rfl) ?_
  refine ops_val (ex_load ty3 rfl (H2.cell (i := 1) rfl hu0)) ?_
  change Ops _ _ _ _ _ _ [_, _, _, _, _, _, _, _, _, _, _, _, _, _, _, _, _, _, _, _, _, _, _, _, _, _, _, _, _, _, _, _, _, _, _, _, _, _, _, _, _, _, _, _, _, _, _, _, _, _, _, _, _, _, _, _, _, _, _, _, _, _, _, _, _, _] _
  refine ops_true (ex_eql rfl rfl) (rfl) ?_
  refine ops_val (ex_move rfl) ?_
  change Ops _ _ _ _ _ _ [_, _, _, _, _, _, _, _, _, _, _, _, _, _, _, _, _, _, _, _, _, _, _, _, _, _, _, _, _, _, _, _, _, _, _, _, _, _, _, _, _, _, _, _, _, _, _, _, _, _, _, _, _, _, _, _, _, _, _, _, _, _, _, _, _, _] _
  refine ops_yes rfl ?_
  refine ops_val (ex_fieldAddr fl72_1 rfl) ?_
  refine ops_yes rfl ?_
  refine ops_val (ex_load ty3 rfl (H2.cell (i := 0) rfl hv1)) ?_
  change Ops _ _ _ _ _ _ [_, _, _, _, _, _, _, _, _, _, _, _, _, _, _, _, _, _, _, _, _, _, _, _, _, _, _, _, _, _, _, _, _, _, _, _, _, _, _, _, _, _, _, _, _, _, _, _, _, _, _, _, _, _, _, _, _, _, _, _, _, _, _, _, _, _] _
  refine ops_yes rfl ?_
  refine ops_val (ex_fieldAddr fl72_1 rfl) ?_
  refine ops_yes rfl ?_
  refine ops_val (ex_load ty3 rfl (H2.cell (i := 1) rfl hu1)) ?_
  change Ops _ _ _ _ _ _ [_, _, _, _, _, _, _, _, _, _, _, _, _, _, _, _, _, _, _, _, _, _, _, _, _, _, _, _, _, _, _, _, _, _, _, _, _, _, _, _, _, _, _, _, _, _, _, _, _, _, _, _, _, _, _, _, _, _, _, _, _, _, _, _, _, _] _
  refine ops_yes rfl ?_
  refine ops_true (ex_eql rfl rfl) (rfl) ?_
  refine ops_val (ex_pick_t rfl rfl) ?_
  refine ops_val (ex_move rfl) ?_
  change Ops _ _ _ _ _ _ [_, _, _, _, _, _, _, _, _, _, _, _, _, _, _, _, _, _, _, _, _, _, _, _, _, _, _, _, _, _, _, _, _, _, _, _, _, _, _, _, _, _, _, _, _, _, _, _, _, _, _, _, _, _, _, _, _, _, _, _, _, _, _, _, _, _] _
  refine ops_yes rfl ?_
  refine ops_val (ex_fieldAddr fl72_2 rfl) ?_
  refine ops_yes rfl ?_
  refine ops_val (ex_load ty3 rfl (H2.cell (i := 0) rfl hv2)) ?_
  change Ops _ _ _ _ _ _ [_, _, _, _, _, _, _, _, _, _, _, _, _, _, _, _, _, _, _, _, _, _, _, _, _, _, _, _, _, _, _, _, _, _, _, _, _, _, _, _, _, _, _, _, _, _, _, _, _, _, _, _, _, _, _, _, _, _, _, _, _, _, _, _, _, _] _
  refine ops_yes rfl ?_
  refine ops_val (ex_fieldAddr fl72_2 rfl) ?_
  refine ops_yes rfl ?_
  refine ops_val (ex_load ty3 rfl (H2.cell (i := 1) rfl hu2)) ?_
  change Ops _ _ _ _ _ _ [_, _, _, _, _, _, _, _, _, _, _, _, _, _, _, _, _, _, _, _, _, _, _, _, _, _, _, _, _, _, _, _, _, _, _, _, _, _, _, _, _, _, _, _, _, _, _, _, _, _, _, _, _, _, _, _, _, _, _, _, _, _, _, _, _, _] _
  refine ops_yes rfl ?_
  refine ops_true (ex_eql rfl rfl) (rfl) ?_
  refine ops_val (ex_pick_t rfl rfl) ?_
  refine ops_val (ex_move rfl) ?_
  change Ops _ _ _ _ _ _ [_, _, _, _, _, _, _, _, _, _, _, _, _, _, _, _, _, _, _, _, _, _, _, _, _, _, _, _, _, _, _, _, _, _, _, _, _, _, _, _, _, _, _, _, _, _, _, _, _, _, _, _, _, _, _, _, _, _, _, _, _, _, _, _, _, _] _
  refine ops_yes rfl ?_
  refine ops_val (ex_fieldAddr fl72_3 rfl) ?_
  refine ops_yes rfl ?_
  refine ops_val (ex_loadN ty42 rfl (vs := _) hl103 (H2.cellsAt (i := 0) rfl ht1_3)) ?_
  change Ops _ _ _ _ _ _ [_, _, _, _, _, _, _, _, _, _, _, _, _, _, _, _, _, _, _, _, _, _, _, _, _, _, _, _, _, _, _, _, _, _, _, _, _, _, _, _, _, _, _, _, _, _, _, _, _, _, _, _, _, _, _, _, _, _, _, _, _, _, _, _, _, _] _
  refine ops_yes rfl ?_
  refine ops_val (ex_fieldAddr fl72_3 rfl) ?_
  refine ops_yes rfl ?_
  refine ops_val (ex_loadN ty42 rfl (vs := _) hl103 (by rw [← hp3]; exact H2.cellsAt (i := 1) rfl ht2_3)) ?_
  change Ops _ _ _ _ _ _ [_, _, _, _, _, _, _, _, _, _, _, _, _, _, _, _, _, _, _, _, _, _, _, _, _, _, _, _, _, _, _, _, _, _, _, _, _, _, _, _, _, _, _, _, _, _, _, _, _, _, _, _, _, _, _, _, _, _, _, _, _, _, _, _, _, _] _
  refine ops_yes rfl ?_
  refine ops_val (ex_eql_same lay42 (by decide) rfl agg42 eqg42 hg1_3 rfl rfl) ?_
  refine ops_val (ex_pick_t rfl rfl) ?_
  refine ops_val (ex_move rfl) ?_
  change Ops _ _ _ _ _ _ [_, _, _, _, _, _, _, _, _, _, _, _, _, _, _, _, _, _, _, _, _, _, _, _, _, _, _, _, _, _, _, _, _, _, _, _, _, _, _, _, _, _, _, _, _, _, _, _, _, _, _, _, _, _, _, _, _, _, _, _, _, _, _, _, _, _] _
  refine ops_yes rfl ?_
  refine ops_val (ex_fieldAddr fl72_4 rfl) ?_
  refine ops_yes rfl ?_
  refine ops_val (ex_load ty3 rfl (H2.cell (i := 0) rfl hv5)) ?_
  change Ops _ _ _ _ _ _ [_, _, _, _, _, _, _, _, _, _, _, _, _, _, _, _, _, _, _, _, _, _, _, _, _, _, _, _, _, _, _, _, _, _, _, _, _, _, _, _, _, _, _, _, _, _, _, _, _, _, _, _, _, _, _, _, _, _, _, _, _, _, _, _, _, _] _
  refine ops_yes rfl ?_
  refine ops_val (ex_fieldAddr fl72_4 rfl) ?_
  refine ops_yes rfl ?_
  refine ops_val (ex_load ty3 rfl (H2.cell (i := 1) rfl hu5)) ?_
  change Ops _ _ _ _ _ _ [_, _, _, _, _, _, _, _, _, _, _, _, _, _, _, _, _, _, _, _, _, _, _, _, _, _, _, _, _, _, _, _, _, _, _, _, _, _, _, _, _, _, _, _, _, _, _, _, _, _, _, _, _, _, _, _, _, _, _, _, _, _, _, _, _, _] _
  refine ops_yes rfl ?_
  refine ops_true (ex_eql rfl rfl) (rfl) ?_
  refine ops_val (ex_pick_t rfl rfl) ?_
  refine ops_val (ex_move rfl) ?_
  change Ops _ _ _ _ _ _ [_, _, _, _, _, _, _, _, _, _, _, _, _, _, _, _, _, _, _, _, _, _, _, _, _, _, _, _, _, _, _, _, _, _, _, _, _, _, _, _, _, _, _, _, _, _, _, _, _, _, _, _, _, _, _, _, _, _, _, _, _, _, _, _, _, _] _
  refine ops_yes rfl ?_
  refine ops_val (ex_fieldAddr fl72_5 rfl) ?_
  refine ops_yes rfl ?_
  refine ops_val (ex_load ty3 rfl (H2.cell (i := 0) rfl hv6)) ?_
  change Ops _ _ _ _ _ _ [_, _, _, _, _, _, _, _, _, _, _, _, _, _, _, _, _, _, _, _, _, _, _, _, _, _, _, _, _, _, _, _, _, _, _, _, _, _, _, _, _, _, _, _, _, _, _, _, _, _, _, _, _, _, _, _, _, _, _, _, _, _, _, _, _, _] _
  refine ops_yes rfl ?_
  refine ops_val (ex_fieldAddr fl72_5 rfl) ?_
  refine ops_yes rfl ?_
  refine ops_val (ex_load ty3 rfl (H2.cell (i := 1) rfl hu6)) ?_
  change Ops _ _ _ _ _ _ [_, _, _, _, _, _, _, _, _, _, _, _, _, _, _, _, _, _, _, _, _, _, _, _, _, _, _, _, _, _, _, _, _, _, _, _, _, _, _, _, _, _, _, _, _, _, _, _, _, _, _, _, _, _, _, _, _, _, _, _, _, _, _, _, _, _] _
  refine ops_yes rfl ?_
  refine ops_true (ex_eql rfl rfl) (rfl) ?_
  refine ops_val (ex_pick_t rfl rfl) ?_
  refine ops_val (ex_move rfl) ?_
  change Ops _ _ _ _ _ _ [_, _, _, _, _, _, _, _, _, _, _, _, _, _, _, _, _, _, _, _, _, _, _, _, _, _, _, _, _, _, _, _, _, _, _, _, _, _, _, _, _, _, _, _, _, _, _, _, _, _, _, _, _, _, _, _, _, _, _, _, _, _, _, _, _, _] _
  refine ops_yes rfl ?_
  refine ops_val (ex_fieldAddr fl72_6 rfl) ?_
  refine ops_yes rfl ?_
  refine ops_val (ex_load ty66 rfl (H2.cell (i := 0) rfl hv7)) ?_
  change Ops _ _ _ _ _ _ [_, _, _, _, _, _, _, _, _, _, _, _, _, _, _, _, _, _, _, _, _, _, _, _, _, _, _, _, _, _, _, _, _, _, _, _, _, _, _, _, _, _, _, _, _, _, _, _, _, _, _, _, _, _, _, _, _, _, _, _, _, _, _, _, _, _] _
  refine ops_yes rfl ?_
  refine ops_val (ex_fieldAddr fl72_6 rfl) ?_
  refine ops_yes rfl ?_
  refine ops_val (ex_load ty66 rfl (H2.cell (i := 1) rfl hu7)) ?_
  change Ops _ _ _ _ _ _ [_, _, _, _, _, _, _, _, _, _, _, _, _, _, _, _, _, _, _, _, _, _, _, _, _, _, _, _, _, _, _, _, _, _, _, _, _, _, _, _, _, _, _, _, _, _, _, _, _, _, _, _, _, _, _, _, _, _, _, _, _, _, _, _, _, _] _
  refine ops_yes rfl ?_
  refine ops_call_val (ex_call gf65 rfl) (slistvote_any _ _ _ _ _ _ _ _ (Th.to _ hS1_1 H2 (fun _ _ => by simp)) (Th.to _ hS2_1 H2 (fun _ _ => by simp)) hss1) ?_
  intro w3 Hd
  have H3 := H2.call0 Hd
  refine ops_val (ex_pick_t rfl rfl) ?_
  refine ops_val (ex_move rfl) ?_
  change Ops _ _ _ _ _ _ [_, _, _, _, _, _, _, _, _, _, _, _, _, _, _, _, _, _, _, _, _, _, _, _, _, _, _, _, _, _, _, _, _, _, _, _, _, _, _, _, _, _, _, _, _, _, _, _, _, _, _, _, _, _, _, _, _, _, _, _, _, _, _, _, _, _] _
  refine ops_yes rfl ?_
  refine ops_val (ex_fieldAddr fl72_7 rfl) ?_
  refine ops_yes rfl ?_
  refine ops_val (ex_load ty67 rfl (H3.cell (i := 0) rfl hv8)) ?_
  change Ops _ _ _ _ _ _ [_, _, _, _, _, _, _, _, _, _, _, _, _, _, _, _, _, _, _, _, _, _, _, _, _, _, _, _, _, _, _, _, _, _, _, _, _, _, _, _, _, _, _, _, _, _, _, _, _, _, _, _, _, _, _, _, _, _, _, _, _, _, _, _, _, _] _
  refine ops_yes rfl ?_
  refine ops_val (ex_fieldAddr fl72_7 rfl) ?_
  refine ops_yes rfl ?_
  refine ops_val (ex_load ty67 rfl (H3.cell (i := 1) rfl hu8)) ?_
  change Ops _ _ _ _ _ _ [_, _, _, _, _, _, _, _, _, _, _, _, _, _, _, _, _, _, _, _, _, _, _, _, _, _, _, _, _, _, _, _, _, _, _, _, _, _, _, _, _, _, _, _, _, _, _, _, _, _, _, _, _, _, _, _, _, _, _, _, _, _, _, _, _, _] _
  refine ops_yes rfl ?_
  refine ops_call_val (ex_call gf66 rfl) (slistentry_any _ _ _ _ _ _ _ _ (Th.to _ hS1_2 H3 (fun _ _ => by simp)) (Th.to _ hS2_2 H3 (fun _ _ => by simp)) hss2) ?_
  intro w4 Hd
  have H4 := H3.call0 Hd
  refine ops_val (ex_pick_t rfl rfl) ?_
  refine ops_val (ex_move rfl) ?_
  change Ops _ _ _ _ _ _ [_, _, _, _, _, _, _, _, _, _, _, _, _, _, _, _, _, _, _, _, _, _, _, _, _, _, _, _, _, _, _, _, _, _, _, _, _, _, _, _, _, _, _, _, _, _, _, _, _, _, _, _, _, _, _, _, _, _, _, _, _, _, _, _, _, _] _
  refine ops_yes rfl ?_
  refine ops_val (ex_fieldAddr fl72_8 rfl) ?_
  refine ops_yes rfl ?_
  refine ops_val (ex_loadN ty70 rfl (vs := _) hl109 (H4.cellsAt (i := 0) rfl ht1_9)) ?_
  change Ops _ _ _ _ _ _ [_, _, _, _, _, _, _, _, _, _, _, _, _, _, _, _, _, _, _, _, _, _, _, _, _, _, _, _, _, _, _, _, _, _, _, _, _, _, _, _, _, _, _, _, _, _, _, _, _, _, _, _, _, _, _, _, _, _, _, _, _, _, _, _, _, _] _
  refine ops_yes rfl ?_
  refine ops_val (ex_fieldAddr fl72_8 rfl) ?_
  refine ops_yes rfl ?_
  refine ops_val (ex_loadN ty70 rfl (vs := _) hm109 (H4.cellsAt (i := 1) rfl ht2_9)) ?_
  change Ops _ _ _ _ _ _ [_, _, _, _, _, _, _, _, _, _, _, _, _, _, _, _, _, _, _, _, _, _, _, _, _, _, _, _, _, _, _, _, _, _, _, _, _, _, _, _, _, _, _, _, _, _, _, _, _, _, _, _, _, _, _, _, _, _, _, _, _, _, _, _, _, _] _
  refine ops_yes rfl ?_
  refine ops_call_val (ex_call gf67 rfl) (spiece_any _ _ _ _ _ _ (Th.to _ hg1_9 H4 (fun _ _ => by simp)) (Th.to _ hg2_9 H4 (fun _ _ => by simp)) (hss3.part 0 4)) ?_
  intro w5 Hd
  have H5 := H4.call0 Hd
  refine ops_val (ex_pick_t rfl rfl) ?_
  refine ops_val (ex_assign rfl) ?_
  refine ops_nil ?_
  change Run _ _ _ _ [_, _, _, _, _, _, _, _, _, _, _, _, _, _, _, _, _, _, _, _, _, _, _, _, _, _, _, _, _, _, _, _, _, _, _, _, _, _, _, _, _, _, _, _, _, _, _, _, _, _, _, _, _, _, _, _, _, _, _, _, _, _, _, _, _, _] _
  refine run_ret ?_
  refine fin_ret1 rfl rfl ?_
  exact ⟨rfl, H5.pick [] (by decide)⟩
end Go.Proofs.Ytoeobicpdeklaaa
