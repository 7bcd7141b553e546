/- Walks of layer 2, printed by wip/gen/codec.py. -/
import Derived.Test.YtnlajgeehlpdaaaDiskJ
namespace Go.Proofs.Ytnlajgeehlpdaaa
open Go Go.RowKit
set_option linter.unusedVariables false
attribute [local irreducible] Still Ops Does Cd
set_option maxRecDepth 100000 in
set_option maxHeartbeats 4000000 in
theorem forks_any (bk : Int) (A : Option Addr) (s : List OpV) (sc : Nat) (A2 : Option Addr) (mo : List OpV) (mc : Nat) (w0 : World) (hs : ScOk w0 A s) (hs2 : ScOk w0 A2 mo) (hsm2 : s.length + mo.length ≤ 2000000) :
    Does Try.prog 6 #[.int .i64 bk, .slice A s.length sc, .slice A2 mo.length mc] w0 (fun r w' => r = .bool true ∧ Hp w0 w' [] []) := by
  refine does_of Try.func6 Try.ntmps6 rfl ?_
  change Run _ _ _ _ [.int .i64 bk, .slice A s.length sc, .slice A2 mo.length mc, undef, undef, undef, undef, undef, undef, undef, undef, undef, undef, undef, undef, undef, undef, undef, undef, undef, undef, undef, undef, undef, undef, undef, undef, undef, undef, undef, undef, undef, undef, undef, undef, undef, undef, undef, undef, undef, undef, undef, undef, undef, undef, undef, undef, undef, undef, undef, undef, undef, undef, undef, undef, undef, undef, undef, undef, undef, undef, undef, undef, undef, undef, undef, undef, undef, undef, undef, undef, undef, undef, undef, undef, undef, undef, undef, undef, undef, undef, undef, undef, undef, undef, undef, undef, undef, undef, undef, undef, undef, undef, undef, undef, undef, undef, undef, undef, undef, undef, undef, undef, undef, undef, undef, undef, undef, undef, undef, undef, undef, undef, undef] _
  have H := Hp.refl w0
  refine run_seq ?_
  refine run_region ?_
  refine ops_val (ex_assign rfl) ?_
  refine ops_nil ?_
  change Run _ _ _ _ [_, _, _, _, _, _, _, _, _, _, _, _, _, _, _, _, _, _, _, _, _, _, _, _, _, _, _, _, _, _, _, _, _, _, _, _, _, _, _, _, _, _, _, _, _, _, _, _, _, _, _, _, _, _, _, _, _, _, _, _, _, _, _, _, _, _, _, _, _, _, _, _, _, _, _, _, _, _, _, _, _, _, _, _, _, _, _, _, _, _, _, _, _, _, _, _, _, _, _, _, _, _, _, _, _, _, _, _, _, _, _, _, _, _] _
  refine run_seq ?_
  refine run_region ?_
  refine ops_val (ex_move rfl) ?_
  refine ops_val (ex_move rfl) ?_
  refine ops_call (ex_call gf8 rfl) (ran_any bk A s sc _ ⟨hs.rd.to0 H, hs.most, fun o ho => ⟨(hs.each o ho).1, (hs.each o ho).2.1, (hs.each o ho).2.2.to0 H⟩⟩) ?_
  rintro _ w1 ⟨gd, gk, gw, cw, sp, D0, rfl, hO, hk40, hw0, Hd⟩
  have H1 := (H.call0 Hd).pick [0, 1, 2] (by decide)
  have hsm := hs.most
  have hkpos := hO.pos
  refine ops_val (ex_assign rfl) ?_
  refine ops_nil ?_
  change Run _ _ _ _ [_, _, _, _, _, _, _, _, _, _, _, _, _, _, _, _, _, _, _, _, _, _, _, _, _, _, _, _, _, _, _, _, _, _, _, _, _, _, _, _, _, _, _, _, _, _, _, _, _, _, _, _, _, _, _, _, _, _, _, _, _, _, _, _, _, _, _, _, _, _, _, _, _, _, _, _, _, _, _, _, _, _, _, _, _, _, _, _, _, _, _, _, _, _, _, _, _, _, _, _, _, _, _, _, _, _, _, _, _, _, _, _, _, _] _
  refine run_seq ?_
  refine run_seq ?_
  refine run_region ?_
  refine ops_call_val (ex_call gf9 rfl) (awake_any _) ?_
  intro w2 Hd
  have H2 := H1.call0 Hd
  refine ops_val (ex_not rfl) ?_
  refine ops_val (ex_move rfl) ?_
  change Ops _ _ _ _ _ _ [_, _, _, _, _, _, _, _, _, _, _, _, _, _, _, _, _, _, _, _, _, _, _, _, _, _, _, _, _, _, _, _, _, _, _, _, _, _, _, _, _, _, _, _, _, _, _, _, _, _, _, _, _, _, _, _, _, _, _, _, _, _, _, _, _, _, _, _, _, _, _, _, _, _, _, _, _, _, _, _, _, _, _, _, _, _, _, _, _, _, _, _, _, _, _, _, _, _, _, _, _, _, _, _, _, _, _, _, _, _, _, _, _, _] _
  refine ops_yes rfl ?_
  refine ops_val (ex_move rfl) ?_
  refine ops_yes rfl ?_
  refine ops_false (ex_eql_nil_ptr Try.underlying24 rfl) (by simp) ?_
  refine ops_val (ex_pick_f rfl rfl) ?_
  refine ops_nil ?_
  change Run _ _ _ _ [_, _, _, _, _, _, _, _, _, _, _, _, _, _, _, _, _, _, _, _, _, _, _, _, _, _, _, _, _, _, _, _, _, _, _, _, _, _, _, _, _, _, _, _, _, _, _, _, _, _, _, _, _, _, _, _, _, _, _, _, _, _, _, _, _, _, _, _, _, _, _, _, _, _, _, _, _, _, _, _, _, _, _, _, _, _, _, _, _, _, _, _, _, _, _, _, _, _, _, _, _, _, _, _, _, _, _, _, _, _, _, _, _, _] _
  refine run_cond_false rfl ?_
  refine run_skip ?_
  refine run_seq ?_
  refine run_region ?_
  refine ops_val (ex_move rfl) ?_
  have hk := fork_any gd gk gw cw sp D0 _ (H2.pick [0, 1, 2] (by decide)).here hO (by omega)
  refine ops_call (ex_call gf24 rfl) hk ?_
  rintro _ w3 ⟨gf, gq, gv, cv, sv, F, rfl, hf1, hf2, hf3, hf4, hF, Hd⟩
  have H3 := (H2.callr [0, 1, 2] rfl Hd).pick [3, 4, 5, 6, 7, 8] (by decide)
  refine ops_val (ex_assign rfl) ?_
  refine ops_nil ?_
  change Run _ _ _ _ [_, _, _, _, _, _, _, _, _, _, _, _, _, _, _, _, _, _, _, _, _, _, _, _, _, _, _, _, _, _, _, _, _, _, _, _, _, _, _, _, _, _, _, _, _, _, _, _, _, _, _, _, _, _, _, _, _, _, _, _, _, _, _, _, _, _, _, _, _, _, _, _, _, _, _, _, _, _, _, _, _, _, _, _, _, _, _, _, _, _, _, _, _, _, _, _, _, _, _, _, _, _, _, _, _, _, _, _, _, _, _, _, _, _] _
  refine run_seq ?_
  refine run_region ?_
  refine ops_val (ex_move rfl) ?_
  have hk := fork_any gd gk gw cw sp D0 _ (H3.pick [0, 1, 2] (by decide)).here hO (by omega)
  refine ops_call (ex_call gf24 rfl) hk ?_
  rintro _ w4 ⟨gg, gr, gy, cy, sy, G, rfl, hg1, hg2, hg3, hg4, hG, Hd⟩
  have H4 := (H3.callr [0, 1, 2] rfl Hd).pick [6, 7, 8, 3, 4, 5, 9, 10, 11] (by decide)
  refine ops_val (ex_assign rfl) ?_
  refine ops_nil ?_
  change Run _ _ _ _ [_, _, _, _, _, _, _, _, _, _, _, _, _, _, _, _, _, _, _, _, _, _, _, _, _, _, _, _, _, _, _, _, _, _, _, _, _, _, _, _, _, _, _, _, _, _, _, _, _, _, _, _, _, _, _, _, _, _, _, _, _, _, _, _, _, _, _, _, _, _, _, _, _, _, _, _, _, _, _, _, _, _, _, _, _, _, _, _, _, _, _, _, _, _, _, _, _, _, _, _, _, _, _, _, _, _, _, _, _, _, _, _, _, _] _
  refine run_seq ?_
  refine run_seq ?_
  refine run_region ?_
  refine ops_val (ex_move rfl) ?_
  refine ops_false (ex_eql_nil_ptr Try.underlying24 rfl) (by simp) ?_
  refine ops_val (ex_move rfl) ?_
  change Ops _ _ _ _ _ _ [_, _, _, _, _, _, _, _, _, _, _, _, _, _, _, _, _, _, _, _, _, _, _, _, _, _, _, _, _, _, _, _, _, _, _, _, _, _, _, _, _, _, _, _, _, _, _, _, _, _, _, _, _, _, _, _, _, _, _, _, _, _, _, _, _, _, _, _, _, _, _, _, _, _, _, _, _, _, _, _, _, _, _, _, _, _, _, _, _, _, _, _, _, _, _, _, _, _, _, _, _, _, _, _, _, _, _, _, _, _, _, _, _, _] _
  refine ops_yes rfl ?_
  refine ops_val (ex_move rfl) ?_
  refine ops_yes rfl ?_
  refine ops_false (ex_eql_nil_ptr Try.underlying24 rfl) (by simp) ?_
  refine ops_val (ex_pick_f rfl rfl) ?_
  refine ops_val (ex_move rfl) ?_
  change Ops _ _ _ _ _ _ [_, _, _, _, _, _, _, _, _, _, _, _, _, _, _, _, _, _, _, _, _, _, _, _, _, _, _, _, _, _, _, _, _, _, _, _, _, _, _, _, _, _, _, _, _, _, _, _, _, _, _, _, _, _, _, _, _, _, _, _, _, _, _, _, _, _, _, _, _, _, _, _, _, _, _, _, _, _, _, _, _, _, _, _, _, _, _, _, _, _, _, _, _, _, _, _, _, _, _, _, _, _, _, _, _, _, _, _, _, _, _, _, _, _] _
  refine ops_yes rfl ?_
  refine ops_val (ex_move rfl) ?_
  refine ops_yes rfl ?_
  have hk := (down_any gf gq gv cv sv (F) _ (H4.pick [3, 4, 5] (by decide)).here hF)
  rw [hf3] at hk
  refine ops_call_val (ex_call gf23 rfl) hk ?_
  intro w5 Hd
  have H5 := (H4.callr [3, 4, 5] rfl Hd).pick [0, 1, 2, 9, 10, 11, 6, 7, 8] (by decide)
  change Ops _ _ _ _ _ _ [_, _, _, _, _, _, _, _, _, _, _, _, _, _, _, _, _, _, _, _, _, _, _, _, _, _, _, _, _, _, _, _, _, _, _, _, _, _, _, _, _, _, _, _, _, _, _, _, _, _, _, _, _, _, _, _, _, _, _, _, _, _, _, _, _, _, _, _, _, _, _, _, _, _, _, _, _, _, _, _, _, _, _, _, _, _, _, _, _, _, _, _, _, _, _, _, _, _, _, _, _, _, _, _, _, _, _, _, _, _, _, _, _, _] _
  refine ops_yes rfl ?_
  refine ops_val (ex_move rfl) ?_
  refine ops_yes rfl ?_
  have hk := (down_any gd gk gw cw sp (D0) _ (H5.pick [0, 1, 2] (by decide)).here hO)
  refine ops_call_val (ex_call gf23 rfl) hk ?_
  intro w6 Hd
  have H6 := (H5.callr [0, 1, 2] rfl Hd).pick [9, 10, 11, 3, 4, 5, 6, 7, 8] (by decide)
  change Ops _ _ _ _ _ _ [_, _, _, _, _, _, _, _, _, _, _, _, _, _, _, _, _, _, _, _, _, _, _, _, _, _, _, _, _, _, _, _, _, _, _, _, _, _, _, _, _, _, _, _, _, _, _, _, _, _, _, _, _, _, _, _, _, _, _, _, _, _, _, _, _, _, _, _, _, _, _, _, _, _, _, _, _, _, _, _, _, _, _, _, _, _, _, _, _, _, _, _, _, _, _, _, _, _, _, _, _, _, _, _, _, _, _, _, _, _, _, _, _, _] _
  refine ops_yes rfl ?_
  refine ops_false (ex_neq_bool Try.underlying4 rfl rfl) (by simp) ?_
  refine ops_val (ex_pick_f rfl rfl) ?_
  refine ops_val (ex_move rfl) ?_
  change Ops _ _ _ _ _ _ [_, _, _, _, _, _, _, _, _, _, _, _, _, _, _, _, _, _, _, _, _, _, _, _, _, _, _, _, _, _, _, _, _, _, _, _, _, _, _, _, _, _, _, _, _, _, _, _, _, _, _, _, _, _, _, _, _, _, _, _, _, _, _, _, _, _, _, _, _, _, _, _, _, _, _, _, _, _, _, _, _, _, _, _, _, _, _, _, _, _, _, _, _, _, _, _, _, _, _, _, _, _, _, _, _, _, _, _, _, _, _, _, _, _] _
  refine ops_yes rfl ?_
  refine ops_val (ex_move rfl) ?_
  refine ops_yes rfl ?_
  have hk := (waiting_any gf gq gv cv sv (F) _ (H6.pick [3, 4, 5] (by decide)).here hF)
  rw [hf2] at hk
  refine ops_call_val (ex_call gf18 rfl) hk ?_
  intro w7 Hd
  have H7 := (H6.callr [3, 4, 5] rfl Hd).pick [0, 1, 2, 9, 10, 11, 6, 7, 8] (by decide)
  change Ops _ _ _ _ _ _ [_, _, _, _, _, _, _, _, _, _, _, _, _, _, _, _, _, _, _, _, _, _, _, _, _, _, _, _, _, _, _, _, _, _, _, _, _, _, _, _, _, _, _, _, _, _, _, _, _, _, _, _, _, _, _, _, _, _, _, _, _, _, _, _, _, _, _, _, _, _, _, _, _, _, _, _, _, _, _, _, _, _, _, _, _, _, _, _, _, _, _, _, _, _, _, _, _, _, _, _, _, _, _, _, _, _, _, _, _, _, _, _, _, _] _
  refine ops_yes rfl ?_
  refine ops_val (ex_move rfl) ?_
  refine ops_yes rfl ?_
  have hk := (waiting_any gd gk gw cw sp (D0) _ (H7.pick [0, 1, 2] (by decide)).here hO)
  refine ops_call_val (ex_call gf18 rfl) hk ?_
  intro w8 Hd
  have H8 := (H7.callr [0, 1, 2] rfl Hd).pick [9, 10, 11, 3, 4, 5, 6, 7, 8] (by decide)
  change Ops _ _ _ _ _ _ [_, _, _, _, _, _, _, _, _, _, _, _, _, _, _, _, _, _, _, _, _, _, _, _, _, _, _, _, _, _, _, _, _, _, _, _, _, _, _, _, _, _, _, _, _, _, _, _, _, _, _, _, _, _, _, _, _, _, _, _, _, _, _, _, _, _, _, _, _, _, _, _, _, _, _, _, _, _, _, _, _, _, _, _, _, _, _, _, _, _, _, _, _, _, _, _, _, _, _, _, _, _, _, _, _, _, _, _, _, _, _, _, _, _] _
  refine ops_yes rfl ?_
  refine ops_false (ex_neq rfl rfl) (by simp) ?_
  refine ops_val (ex_pick_f rfl rfl) ?_
  refine ops_val (ex_move rfl) ?_
  change Ops _ _ _ _ _ _ [_, _, _, _, _, _, _, _, _, _, _, _, _, _, _, _, _, _, _, _, _, _, _, _, _, _, _, _, _, _, _, _, _, _, _, _, _, _, _, _, _, _, _, _, _, _, _, _, _, _, _, _, _, _, _, _, _, _, _, _, _, _, _, _, _, _, _, _, _, _, _, _, _, _, _, _, _, _, _, _, _, _, _, _, _, _, _, _, _, _, _, _, _, _, _, _, _, _, _, _, _, _, _, _, _, _, _, _, _, _, _, _, _, _] _
  refine ops_yes rfl ?_
  refine ops_val (ex_move rfl) ?_
  refine ops_yes rfl ?_
  have hk := (size_any gf gq gv cv sv (F) _ (H8.pick [3, 4, 5] (by decide)).here hF)
  rw [hf1] at hk
  refine ops_call_val (ex_call gf12 rfl) hk ?_
  intro w9 Hd
  have H9 := (H8.callr [3, 4, 5] rfl Hd).pick [0, 1, 2, 9, 10, 11, 6, 7, 8] (by decide)
  change Ops _ _ _ _ _ _ [_, _, _, _, _, _, _, _, _, _, _, _, _, _, _, _, _, _, _, _, _, _, _, _, _, _, _, _, _, _, _, _, _, _, _, _, _, _, _, _, _, _, _, _, _, _, _, _, _, _, _, _, _, _, _, _, _, _, _, _, _, _, _, _, _, _, _, _, _, _, _, _, _, _, _, _, _, _, _, _, _, _, _, _, _, _, _, _, _, _, _, _, _, _, _, _, _, _, _, _, _, _, _, _, _, _, _, _, _, _, _, _, _, _] _
  refine ops_yes rfl ?_
  refine ops_val (ex_move rfl) ?_
  refine ops_yes rfl ?_
  have hk := (size_any gd gk gw cw sp (D0) _ (H9.pick [0, 1, 2] (by decide)).here hO)
  refine ops_call_val (ex_call gf12 rfl) hk ?_
  intro w10 Hd
  have H10 := (H9.callr [0, 1, 2] rfl Hd).pick [9, 10, 11, 3, 4, 5, 6, 7, 8] (by decide)
  change Ops _ _ _ _ _ _ [_, _, _, _, _, _, _, _, _, _, _, _, _, _, _, _, _, _, _, _, _, _, _, _, _, _, _, _, _, _, _, _, _, _, _, _, _, _, _, _, _, _, _, _, _, _, _, _, _, _, _, _, _, _, _, _, _, _, _, _, _, _, _, _, _, _, _, _, _, _, _, _, _, _, _, _, _, _, _, _, _, _, _, _, _, _, _, _, _, _, _, _, _, _, _, _, _, _, _, _, _, _, _, _, _, _, _, _, _, _, _, _, _, _] _
  refine ops_yes rfl ?_
  refine ops_false (ex_neq rfl rfl) (by simp) ?_
  refine ops_val (ex_pick_f rfl rfl) ?_
  refine ops_nil ?_
  change Run _ _ _ _ [_, _, _, _, _, _, _, _, _, _, _, _, _, _, _, _, _, _, _, _, _, _, _, _, _, _, _, _, _, _, _, _, _, _, _, _, _, _, _, _, _, _, _, _, _, _, _, _, _, _, _, _, _, _, _, _, _, _, _, _, _, _, _, _, _, _, _, _, _, _, _, _, _, _, _, _, _, _, _, _, _, _, _, _, _, _, _, _, _, _, _, _, _, _, _, _, _, _, _, _, _, _, _, _, _, _, _, _, _, _, _, _, _, _] _
  refine run_cond_false rfl ?_
  refine run_skip ?_
  refine run_seq ?_
  refine run_seq ?_
  refine run_region ?_
  refine ops_val (ex_assign rfl) ?_
  refine ops_nil ?_
  change Run _ _ _ _ [_, _, _, _, _, _, _, _, _, _, _, _, _, _, _, _, _, _, _, _, _, _, _, _, _, _, _, _, _, _, _, _, _, _, _, _, _, _, _, _, _, _, _, _, _, _, _, _, _, _, _, _, _, _, _, _, _, _, _, _, _, _, _, _, _, _, _, _, _, _, _, _, _, _, _, _, _, _, _, _, _, _, _, _, _, _, _, _, _, _, _, _, _, _, _, _, _, _, _, _, _, _, _, _, _, _, _, _, _, _, _, _, _, _] _
  refine run_block ?_
  refine run_loop (fun n l w => ∃ (q : Nat) (y : Int) (gv : Option Nat) (cv : Nat) (sv : List Value) (F : Dk), mo.length - q = n ∧ Fits [none, none, some (.slice A2 mo.length mc), none, none, none, none, some (.pointer (some ⟨gd, 0, none⟩)), some (.pointer (some ⟨gf, 0, none⟩)), some (.pointer (some ⟨gg, 0, none⟩)), some (.int .i64 y), none, none, none, none, none, none, none, none, none, none, none, none, none, none, none, none, none, none, none, none, none, none, none, none, none, none, none, none, none, none, none, none, none, none, none, none, none, none, none, none, none, none, none, none, none, none, none, none, none, none, none, none, none, none, none, none, none, none, none, none, none, none, none, none, none, none, none, none, none, none, none, none, none, none, none, none, none, none, none, none, none, none, none, none, none, none, none, none, none, none, none, none, none, none, none, none, none, none, none, none, none, none, none] l ∧ y = q ∧ q ≤ mo.length ∧ DOk F gv cv sv ∧ F.wait.length ≤ s.length + q ∧ Hp w0 w [] (dRows gd gk gw cw sp D0 ++ dRows gf gq gv cv sv F ++ dRows gg gr gy cy sy G)) (mo.length) ?_ ?_
  · exact ⟨0, _, gv, cv, sv, F, rfl, (fn (fn (fs (fn (fn (fn (fn (fs (fs (fs (fs (fn (fn (fn (fn (fn (fn (fn (fn (fn (fn (fn (fn (fn (fn (fn (fn (fn (fn (fn (fn (fn (fn (fn (fn (fn (fn (fn (fn (fn (fn (fn (fn (fn (fn (fn (fn (fn (fn (fn (fn (fn (fn (fn (fn (fn (fn (fn (fn (fn (fn (fn (fn (fn (fn (fn (fn (fn (fn (fn (fn (fn (fn (fn (fn (fn (fn (fn (fn (fn (fn (fn (fn (fn (fn (fn (fn (fn (fn (fn (fn (fn (fn (fn (fn (fn (fn (fn (fn (fn (fn (fn (fn (fn (fn (fn (fn (fn (fn (fn (fn (fn (fn (fn f0)))))))))))))))))))))))))))))))))))))))))))))))))))))))))))))))))))))))))))))))))))))))))))))))))))))))))))))))))), rfl, Nat.zero_le _, hF, by rw [hf2]; omega, H10⟩
  · rintro n l w11 ⟨q, y, gv, cv, sv, F, rfl, hfit, rfl, hq, hF, hwq, H11⟩
    obtain ⟨j, rfl⟩ := hfit.open
    change Run _ _ _ _ [_, _, _, _, _, _, _, _, _, _, _, _, _, _, _, _, _, _, _, _, _, _, _, _, _, _, _, _, _, _, _, _, _, _, _, _, _, _, _, _, _, _, _, _, _, _, _, _, _, _, _, _, _, _, _, _, _, _, _, _, _, _, _, _, _, _, _, _, _, _, _, _, _, _, _, _, _, _, _, _, _, _, _, _, _, _, _, _, _, _, _, _, _, _, _, _, _, _, _, _, _, _, _, _, _, _, _, _, _, _, _, _, _, _] _
    clear hfit
    refine run_seq ?_
    refine run_seq ?_
    refine run_region ?_
    refine ops_val (ex_move rfl) ?_
    refine ops_val (ex_move rfl) ?_
    refine ops_val (ex_len_slice Try.underlying22 rfl) ?_
    refine ops_test (ex_lss rfl rfl) (fun hp54 => ?_) (fun hp54 => ?_)
    · have hql : q < mo.length := by omega
      have hwm : F.wait.length ≤ 2932000000000 := by omega
      obtain ⟨he1, he2, he3⟩ := hs2.each mo[q] (List.getElem_mem hql)
      have hsr := hs2.rd
      obtain ⟨⟨pb, po, ps⟩, rfl⟩ := hsr.some_ (by omega)
      obtain rfl : ps = none := op_spot hsr (by omega)
      refine ops_nil ?_
      change Run _ _ _ _ [_, _, _, _, _, _, _, _, _, _, _, _, _, _, _, _, _, _, _, _, _, _, _, _, _, _, _, _, _, _, _, _, _, _, _, _, _, _, _, _, _, _, _, _, _, _, _, _, _, _, _, _, _, _, _, _, _, _, _, _, _, _, _, _, _, _, _, _, _, _, _, _, _, _, _, _, _, _, _, _, _, _, _, _, _, _, _, _, _, _, _, _, _, _, _, _, _, _, _, _, _, _, _, _, _, _, _, _, _, _, _, _, _, _] _
      refine run_cond_true rfl ?_
      refine run_skip ?_
      refine run_seq ?_
      refine run_block ?_
      refine run_seq ?_
      refine run_region ?_
      refine ops_val (ex_move rfl) ?_
      refine ops_val (ex_move rfl) ?_
      refine ops_val (ex_idxN Try.underlying22 ty45 rfl rfl rfl hql) ?_
      refine ops_val (ex_fieldAddr fl45_0 rfl) ?_
      change Ops _ _ _ _ _ _ [_, _, _, _, _, _, _, _, _, _, _, _, _, _, _, _, _, _, _, _, _, _, _, _, _, _, _, _, _, _, _, _, _, _, _, _, _, _, _, _, _, _, _, _, _, _, _, _, _, _, _, _, _, _, _, _, _, _, _, _, _, _, _, _, _, _, _, _, _, _, _, _, _, _, _, _, _, _, _, _, _, _, _, _, _, _, _, _, _, _, _, _, _, _, _, _, _, _, _, _, _, _, _, _, _, _, _, _, _, _, _, _, _, _] _
      refine ops_val (ex_load ty3 rfl (op_at (hsr.to0 H11) hql (j := 0) rfl)) ?_
      refine ops_nil ?_
      change Run _ _ _ _ [_, _, _, _, _, _, _, _, _, _, _, _, _, _, _, _, _, _, _, _, _, _, _, _, _, _, _, _, _, _, _, _, _, _, _, _, _, _, _, _, _, _, _, _, _, _, _, _, _, _, _, _, _, _, _, _, _, _, _, _, _, _, _, _, _, _, _, _, _, _, _, _, _, _, _, _, _, _, _, _, _, _, _, _, _, _, _, _, _, _, _, _, _, _, _, _, _, _, _, _, _, _, _, _, _, _, _, _, _, _, _, _, _, _] _
      refine run_block ?_
      refine run_seq ?_
      refine run_region ?_
      refine ops_test (ex_eql rfl rfl) (fun hp75 => ?_) (fun hp75 => ?_)
      · skip
        refine ops_val (ex_assign rfl) ?_
        refine ops_nil ?_
        change Run _ _ _ _ [_, _, _, _, _, _, _, _, _, _, _, _, _, _, _, _, _, _, _, _, _, _, _, _, _, _, _, _, _, _, _, _, _, _, _, _, _, _, _, _, _, _, _, _, _, _, _, _, _, _, _, _, _, _, _, _, _, _, _, _, _, _, _, _, _, _, _, _, _, _, _, _, _, _, _, _, _, _, _, _, _, _, _, _, _, _, _, _, _, _, _, _, _, _, _, _, _, _, _, _, _, _, _, _, _, _, _, _, _, _, _, _, _, _] _
        refine run_cond_true rfl ?_
        refine run_region ?_
        refine ops_val (ex_move rfl) ?_
        have hk := (sync_any gf gq gv cv sv (F) _ (H11.pick [3, 4, 5] (by decide)).here hF hwm)
        refine ops_call_val (ex_call gf17 rfl) hk ?_
        intro w12 ⟨gv, cv, sv, hF, Hd⟩
        have H12 := (H11.callr [3, 4, 5] rfl Hd).pick [0, 1, 2, 9, 10, 11, 6, 7, 8] (by decide)
        refine ops_nil ?_
        change Run _ _ _ _ [_, _, _, _, _, _, _, _, _, _, _, _, _, _, _, _, _, _, _, _, _, _, _, _, _, _, _, _, _, _, _, _, _, _, _, _, _, _, _, _, _, _, _, _, _, _, _, _, _, _, _, _, _, _, _, _, _, _, _, _, _, _, _, _, _, _, _, _, _, _, _, _, _, _, _, _, _, _, _, _, _, _, _, _, _, _, _, _, _, _, _, _, _, _, _, _, _, _, _, _, _, _, _, _, _, _, _, _, _, _, _, _, _, _] _
        refine run_nil (blk_normal ?_)
        refine run_nil (blk_normal ?_)
        refine run_region ?_
        refine ops_val (ex_move rfl) ?_
        refine ops_val (ex_add rfl rfl (IntWalk.i64_in _ (by omega))) ?_
        refine ops_val (ex_assign rfl) ?_
        refine ops_nil ?_
        change Run _ _ _ _ [_, _, _, _, _, _, _, _, _, _, _, _, _, _, _, _, _, _, _, _, _, _, _, _, _, _, _, _, _, _, _, _, _, _, _, _, _, _, _, _, _, _, _, _, _, _, _, _, _, _, _, _, _, _, _, _, _, _, _, _, _, _, _, _, _, _, _, _, _, _, _, _, _, _, _, _, _, _, _, _, _, _, _, _, _, _, _, _, _, _, _, _, _, _, _, _, _, _, _, _, _, _, _, _, _, _, _, _, _, _, _, _, _, _] _
        refine run_nil (rnd_normal ?_)
        obtain ⟨hb1, hb2⟩ := sync_bd F
        exact ⟨mo.length - (q + 1), by omega, q + 1, _, gv, cv, sv, F.sync.1, rfl, (fn (fn (fs (fn (fn (fn (fn (fs (fs (fs (fs (fn (fn (fn (fn (fn (fn (fn (fn (fn (fn (fn (fn (fn (fn (fn (fn (fn (fn (fn (fn (fn (fn (fn (fn (fn (fn (fn (fn (fn (fn (fn (fn (fn (fn (fn (fn (fn (fn (fn (fn (fn (fn (fn (fn (fn (fn (fn (fn (fn (fn (fn (fn (fn (fn (fn (fn (fn (fn (fn (fn (fn (fn (fn (fn (fn (fn (fn (fn (fn (fn (fn (fn (fn (fn (fn (fn (fn (fn (fn (fn (fn (fn (fn (fn (fn (fn (fn (fn (fn (fn (fn (fn (fn (fn (fn (fn (fn (fn (fn (fn (fn (fn (fn f0)))))))))))))))))))))))))))))))))))))))))))))))))))))))))))))))))))))))))))))))))))))))))))))))))))))))))))))))))), rfl, by omega, hF, by omega, H12⟩
      · skip
        refine ops_val (ex_assign rfl) ?_
        refine ops_nil ?_
        change Run _ _ _ _ [_, _, _, _, _, _, _, _, _, _, _, _, _, _, _, _, _, _, _, _, _, _, _, _, _, _, _, _, _, _, _, _, _, _, _, _, _, _, _, _, _, _, _, _, _, _, _, _, _, _, _, _, _, _, _, _, _, _, _, _, _, _, _, _, _, _, _, _, _, _, _, _, _, _, _, _, _, _, _, _, _, _, _, _, _, _, _, _, _, _, _, _, _, _, _, _, _, _, _, _, _, _, _, _, _, _, _, _, _, _, _, _, _, _] _
        refine run_cond_false rfl ?_
        refine run_seq ?_
        refine run_region ?_
        refine ops_test (ex_eql rfl rfl) (fun hp79 => ?_) (fun hp79 => ?_)
        · skip
          refine ops_val (ex_assign rfl) ?_
          refine ops_nil ?_
          change Run _ _ _ _ [_, _, _, _, _, _, _, _, _, _, _, _, _, _, _, _, _, _, _, _, _, _, _, _, _, _, _, _, _, _, _, _, _, _, _, _, _, _, _, _, _, _, _, _, _, _, _, _, _, _, _, _, _, _, _, _, _, _, _, _, _, _, _, _, _, _, _, _, _, _, _, _, _, _, _, _, _, _, _, _, _, _, _, _, _, _, _, _, _, _, _, _, _, _, _, _, _, _, _, _, _, _, _, _, _, _, _, _, _, _, _, _, _, _] _
          refine run_cond_true rfl ?_
          refine run_region ?_
          refine ops_val (ex_move rfl) ?_
          refine ops_val (ex_move rfl) ?_
          refine ops_val (ex_move rfl) ?_
          refine ops_val (ex_idxN Try.underlying22 ty45 rfl rfl rfl hql) ?_
          change Ops _ _ _ _ _ _ [_, _, _, _, _, _, _, _, _, _, _, _, _, _, _, _, _, _, _, _, _, _, _, _, _, _, _, _, _, _, _, _, _, _, _, _, _, _, _, _, _, _, _, _, _, _, _, _, _, _, _, _, _, _, _, _, _, _, _, _, _, _, _, _, _, _, _, _, _, _, _, _, _, _, _, _, _, _, _, _, _, _, _, _, _, _, _, _, _, _, _, _, _, _, _, _, _, _, _, _, _, _, _, _, _, _, _, _, _, _, _, _, _, _] _
          refine ops_val (ex_fieldAddr fl45_4 rfl) ?_
          refine ops_val (ex_load ty23 rfl (op_at (hsr.to0 H11) hql (j := 4) rfl)) ?_
          have hk := (crash_any gf gq gv cv sv (F) _ (H11.pick [3, 4, 5] (by decide)).here hF mo[q].B mo[q].keep mo[q].kcap (he3.to0 H11) (fun hk => sep_old (H11.pick [3, 4, 5] (by decide)) he3 hk) hwm)
          refine ops_call_val (ex_call gf20 rfl) hk ?_
          intro w12 ⟨gv, cv, sv, hF, Hd⟩
          have H12 := (H11.callr [3, 4, 5] rfl Hd).pick [0, 1, 2, 9, 10, 11, 6, 7, 8] (by decide)
          refine ops_nil ?_
          change Run _ _ _ _ [_, _, _, _, _, _, _, _, _, _, _, _, _, _, _, _, _, _, _, _, _, _, _, _, _, _, _, _, _, _, _, _, _, _, _, _, _, _, _, _, _, _, _, _, _, _, _, _, _, _, _, _, _, _, _, _, _, _, _, _, _, _, _, _, _, _, _, _, _, _, _, _, _, _, _, _, _, _, _, _, _, _, _, _, _, _, _, _, _, _, _, _, _, _, _, _, _, _, _, _, _, _, _, _, _, _, _, _, _, _, _, _, _, _] _
          refine run_nil (blk_normal ?_)
          refine run_nil (blk_normal ?_)
          refine run_region ?_
          refine ops_val (ex_move rfl) ?_
          refine ops_val (ex_add rfl rfl (IntWalk.i64_in _ (by omega))) ?_
          refine ops_val (ex_assign rfl) ?_
          refine ops_nil ?_
          change Run _ _ _ _ [_, _, _, _, _, _, _, _, _, _, _, _, _, _, _, _, _, _, _, _, _, _, _, _, _, _, _, _, _, _, _, _, _, _, _, _, _, _, _, _, _, _, _, _, _, _, _, _, _, _, _, _, _, _, _, _, _, _, _, _, _, _, _, _, _, _, _, _, _, _, _, _, _, _, _, _, _, _, _, _, _, _, _, _, _, _, _, _, _, _, _, _, _, _, _, _, _, _, _, _, _, _, _, _, _, _, _, _, _, _, _, _, _, _] _
          refine run_nil (rnd_normal ?_)
          obtain ⟨hb1, hb2⟩ := crash_bd F mo[q].keep
          exact ⟨mo.length - (q + 1), by omega, q + 1, _, gv, cv, sv, F.crash mo[q].keep, rfl, (fn (fn (fs (fn (fn (fn (fn (fs (fs (fs (fs (fn (fn (fn (fn (fn (fn (fn (fn (fn (fn (fn (fn (fn (fn (fn (fn (fn (fn (fn (fn (fn (fn (fn (fn (fn (fn (fn (fn (fn (fn (fn (fn (fn (fn (fn (fn (fn (fn (fn (fn (fn (fn (fn (fn (fn (fn (fn (fn (fn (fn (fn (fn (fn (fn (fn (fn (fn (fn (fn (fn (fn (fn (fn (fn (fn (fn (fn (fn (fn (fn (fn (fn (fn (fn (fn (fn (fn (fn (fn (fn (fn (fn (fn (fn (fn (fn (fn (fn (fn (fn (fn (fn (fn (fn (fn (fn (fn (fn (fn (fn (fn (fn (fn f0)))))))))))))))))))))))))))))))))))))))))))))))))))))))))))))))))))))))))))))))))))))))))))))))))))))))))))))))))), rfl, by omega, hF, by omega, H12⟩
        · skip
          refine ops_val (ex_assign rfl) ?_
          refine ops_nil ?_
          change Run _ _ _ _ [_, _, _, _, _, _, _, _, _, _, _, _, _, _, _, _, _, _, _, _, _, _, _, _, _, _, _, _, _, _, _, _, _, _, _, _, _, _, _, _, _, _, _, _, _, _, _, _, _, _, _, _, _, _, _, _, _, _, _, _, _, _, _, _, _, _, _, _, _, _, _, _, _, _, _, _, _, _, _, _, _, _, _, _, _, _, _, _, _, _, _, _, _, _, _, _, _, _, _, _, _, _, _, _, _, _, _, _, _, _, _, _, _, _] _
          refine run_cond_false rfl ?_
          refine run_seq ?_
          refine run_region ?_
          refine ops_test (ex_eql rfl rfl) (fun hp88 => ?_) (fun hp88 => ?_)
          · skip
            refine ops_val (ex_assign rfl) ?_
            refine ops_nil ?_
            change Run _ _ _ _ [_, _, _, _, _, _, _, _, _, _, _, _, _, _, _, _, _, _, _, _, _, _, _, _, _, _, _, _, _, _, _, _, _, _, _, _, _, _, _, _, _, _, _, _, _, _, _, _, _, _, _, _, _, _, _, _, _, _, _, _, _, _, _, _, _, _, _, _, _, _, _, _, _, _, _, _, _, _, _, _, _, _, _, _, _, _, _, _, _, _, _, _, _, _, _, _, _, _, _, _, _, _, _, _, _, _, _, _, _, _, _, _, _, _] _
            refine run_cond_true rfl ?_
            refine run_region ?_
            refine ops_val (ex_move rfl) ?_
            have hk := (start_any gf gq gv cv sv (F) _ (H11.pick [3, 4, 5] (by decide)).here hF)
            refine ops_call_val (ex_call gf10 rfl) hk ?_
            intro w12 ⟨gv, cv, sv, hF, Hd⟩
            have H12 := (H11.callr [3, 4, 5] rfl Hd).pick [0, 1, 2, 9, 10, 11, 6, 7, 8] (by decide)
            refine ops_nil ?_
            change Run _ _ _ _ [_, _, _, _, _, _, _, _, _, _, _, _, _, _, _, _, _, _, _, _, _, _, _, _, _, _, _, _, _, _, _, _, _, _, _, _, _, _, _, _, _, _, _, _, _, _, _, _, _, _, _, _, _, _, _, _, _, _, _, _, _, _, _, _, _, _, _, _, _, _, _, _, _, _, _, _, _, _, _, _, _, _, _, _, _, _, _, _, _, _, _, _, _, _, _, _, _, _, _, _, _, _, _, _, _, _, _, _, _, _, _, _, _, _] _
            refine run_nil (blk_normal ?_)
            refine run_nil (blk_normal ?_)
            refine run_region ?_
            refine ops_val (ex_move rfl) ?_
            refine ops_val (ex_add rfl rfl (IntWalk.i64_in _ (by omega))) ?_
            refine ops_val (ex_assign rfl) ?_
            refine ops_nil ?_
            change Run _ _ _ _ [_, _, _, _, _, _, _, _, _, _, _, _, _, _, _, _, _, _, _, _, _, _, _, _, _, _, _, _, _, _, _, _, _, _, _, _, _, _, _, _, _, _, _, _, _, _, _, _, _, _, _, _, _, _, _, _, _, _, _, _, _, _, _, _, _, _, _, _, _, _, _, _, _, _, _, _, _, _, _, _, _, _, _, _, _, _, _, _, _, _, _, _, _, _, _, _, _, _, _, _, _, _, _, _, _, _, _, _, _, _, _, _, _, _] _
            refine run_nil (rnd_normal ?_)
            obtain ⟨hb1, hb2⟩ := start_bd F
            exact ⟨mo.length - (q + 1), by omega, q + 1, _, gv, cv, sv, F.start, rfl, (fn (fn (fs (fn (fn (fn (fn (fs (fs (fs (fs (fn (fn (fn (fn (fn (fn (fn (fn (fn (fn (fn (fn (fn (fn (fn (fn (fn (fn (fn (fn (fn (fn (fn (fn (fn (fn (fn (fn (fn (fn (fn (fn (fn (fn (fn (fn (fn (fn (fn (fn (fn (fn (fn (fn (fn (fn (fn (fn (fn (fn (fn (fn (fn (fn (fn (fn (fn (fn (fn (fn (fn (fn (fn (fn (fn (fn (fn (fn (fn (fn (fn (fn (fn (fn (fn (fn (fn (fn (fn (fn (fn (fn (fn (fn (fn (fn (fn (fn (fn (fn (fn (fn (fn (fn (fn (fn (fn (fn (fn (fn (fn (fn (fn f0)))))))))))))))))))))))))))))))))))))))))))))))))))))))))))))))))))))))))))))))))))))))))))))))))))))))))))))))))), rfl, by omega, hF, by omega, H12⟩
          · skip
            refine ops_val (ex_assign rfl) ?_
            refine ops_nil ?_
            change Run _ _ _ _ [_, _, _, _, _, _, _, _, _, _, _, _, _, _, _, _, _, _, _, _, _, _, _, _, _, _, _, _, _, _, _, _, _, _, _, _, _, _, _, _, _, _, _, _, _, _, _, _, _, _, _, _, _, _, _, _, _, _, _, _, _, _, _, _, _, _, _, _, _, _, _, _, _, _, _, _, _, _, _, _, _, _, _, _, _, _, _, _, _, _, _, _, _, _, _, _, _, _, _, _, _, _, _, _, _, _, _, _, _, _, _, _, _, _] _
            refine run_cond_false rfl ?_
            refine run_mixH [(true, 0), (true, 1), (true, 2), (true, 3), (true, 4), (true, 5), (true, 6), (true, 7), (true, 8), (true, 9), (false, 10), (false, 11)] H11 [] mixed (by decide) (by kernel_rfl) ?_
            rintro w12 hw12
            have H12 := Hp.drew H11; rw [← hw12] at H12
            refine mix_p rfl ?_
            refine mix1_val (fun wz hz => ex_move rfl) ?_
            refine mix_p rfl ?_
            refine mix1_val (fun wz hz => ex_move rfl) ?_
            refine mix_p rfl ?_
            refine mix1_val (fun wz hz => ex_move rfl) ?_
            refine mix_p rfl ?_
            refine mix1_val (fun wz hz => ex_idxN Try.underlying22 ty45 rfl rfl rfl hql) ?_
            change Mixes _ _ _ _ _ _ [_, _, _, _, _, _, _, _, _, _, _, _, _, _, _, _, _, _, _, _, _, _, _, _, _, _, _, _, _, _, _, _, _, _, _, _, _, _, _, _, _, _, _, _, _, _, _, _, _, _, _, _, _, _, _, _, _, _, _, _, _, _, _, _, _, _, _, _, _, _, _, _, _, _, _, _, _, _, _, _, _, _, _, _, _, _, _, _, _, _, _, _, _, _, _, _, _, _, _, _, _, _, _, _, _, _, _, _, _, _, _, _, _, _] _
            refine mix_p rfl ?_
            refine mix1_val (fun wz hz => ex_fieldAddr fl45_1 rfl) ?_
            refine mix_p rfl ?_
            refine mix1_val (fun wz hz => ex_load ty3 rfl (op_at (hsr.to0 hz) hql (j := 1) rfl)) ?_
            refine mix_p rfl ?_
            refine mix1_val (fun wz hz => ex_move rfl) ?_
            refine mix_p rfl ?_
            refine mix1_val (fun wz hz => ex_move rfl) ?_
            change Mixes _ _ _ _ _ _ [_, _, _, _, _, _, _, _, _, _, _, _, _, _, _, _, _, _, _, _, _, _, _, _, _, _, _, _, _, _, _, _, _, _, _, _, _, _, _, _, _, _, _, _, _, _, _, _, _, _, _, _, _, _, _, _, _, _, _, _, _, _, _, _, _, _, _, _, _, _, _, _, _, _, _, _, _, _, _, _, _, _, _, _, _, _, _, _, _, _, _, _, _, _, _, _, _, _, _, _, _, _, _, _, _, _, _, _, _, _, _, _, _, _] _
            refine mix_p rfl ?_
            refine mix1_val (fun wz hz => ex_idxN Try.underlying22 ty45 rfl rfl rfl hql) ?_
            refine mix_p rfl ?_
            refine mix1_val (fun wz hz => ex_loadN ty45 rfl (vs := OpV.cells mo[q]) rfl (op_cellN (hsr.to0 hz) hql)) ?_
            refine mix_o rfl ?_
            refine ops_call_own (ex_call gf22 rfl) (data_any mo[q] _) ?_
            intro w13 g6 c6 s6 hm6 hc6 hg6 Hd
            have H13 := H12.call0 Hd
            refine ops_nil ?_
            refine ⟨H13.pick [] (by decide), ?_⟩
            change Mixes _ _ _ _ _ _ [_, _, _, _, _, _, _, _, _, _, _, _, _, _, _, _, _, _, _, _, _, _, _, _, _, _, _, _, _, _, _, _, _, _, _, _, _, _, _, _, _, _, _, _, _, _, _, _, _, _, _, _, _, _, _, _, _, _, _, _, _, _, _, _, _, _, _, _, _, _, _, _, _, _, _, _, _, _, _, _, _, _, _, _, _, _, _, _, _, _, _, _, _, _, _, _, _, _, _, _, _, _, _, _, _, _, _, _, _, _, _, _, _, _] _
            refine mix_o rfl ?_
            have hk := (write_any gf gq gv cv sv (F) _ (H13.pick [3, 4, 5] (by decide)).here hF mo[q].a (hd g6) (dataOf mo[q].m mo[q].x) c6 (H13.rd (i := 9) (o := g6) (xs := u8s (dataOf mo[q].m mo[q].x)) (sp := s6) rfl (u8s_length1 _) (by decide)) (sep_of H13 9 [3, 4, 5] rfl rfl (by decide)) hwm)
            refine ops_call_val (ex_call gf13 rfl) hk ?_
            intro w14 ⟨gv, cv, sv, hF, Hd⟩
            have H14 := (H13.callr [3, 4, 5] rfl Hd).pick [0, 1, 2, 10, 11, 12, 6, 7, 8] (by decide)
            refine ops_nil ?_
            refine ⟨H14.pick [] (by decide), ?_⟩
            change Mixes _ _ _ _ _ _ [_, _, _, _, _, _, _, _, _, _, _, _, _, _, _, _, _, _, _, _, _, _, _, _, _, _, _, _, _, _, _, _, _, _, _, _, _, _, _, _, _, _, _, _, _, _, _, _, _, _, _, _, _, _, _, _, _, _, _, _, _, _, _, _, _, _, _, _, _, _, _, _, _, _, _, _, _, _, _, _, _, _, _, _, _, _, _, _, _, _, _, _, _, _, _, _, _, _, _, _, _, _, _, _, _, _, _, _, _, _, _, _, _, _] _
            refine mix_nil ?_
            change Run _ _ _ _ [_, _, _, _, _, _, _, _, _, _, _, _, _, _, _, _, _, _, _, _, _, _, _, _, _, _, _, _, _, _, _, _, _, _, _, _, _, _, _, _, _, _, _, _, _, _, _, _, _, _, _, _, _, _, _, _, _, _, _, _, _, _, _, _, _, _, _, _, _, _, _, _, _, _, _, _, _, _, _, _, _, _, _, _, _, _, _, _, _, _, _, _, _, _, _, _, _, _, _, _, _, _, _, _, _, _, _, _, _, _, _, _, _, _] _
            refine run_nil (blk_normal ?_)
            refine run_nil (blk_normal ?_)
            refine run_region ?_
            refine ops_val (ex_move rfl) ?_
            refine ops_val (ex_add rfl rfl (IntWalk.i64_in _ (by omega))) ?_
            refine ops_val (ex_assign rfl) ?_
            refine ops_nil ?_
            change Run _ _ _ _ [_, _, _, _, _, _, _, _, _, _, _, _, _, _, _, _, _, _, _, _, _, _, _, _, _, _, _, _, _, _, _, _, _, _, _, _, _, _, _, _, _, _, _, _, _, _, _, _, _, _, _, _, _, _, _, _, _, _, _, _, _, _, _, _, _, _, _, _, _, _, _, _, _, _, _, _, _, _, _, _, _, _, _, _, _, _, _, _, _, _, _, _, _, _, _, _, _, _, _, _, _, _, _, _, _, _, _, _, _, _, _, _, _, _] _
            refine run_nil (rnd_normal ?_)
            obtain ⟨hb1, hb2⟩ := write_bd F mo[q].a (dataOf mo[q].m mo[q].x)
            exact ⟨mo.length - (q + 1), by omega, q + 1, _, gv, cv, sv, (F.write mo[q].a (dataOf mo[q].m mo[q].x)).1, rfl, (fn (fn (fs (fn (fn (fn (fn (fs (fs (fs (fs (fn (fn (fn (fn (fn (fn (fn (fn (fn (fn (fn (fn (fn (fn (fn (fn (fn (fn (fn (fn (fn (fn (fn (fn (fn (fn (fn (fn (fn (fn (fn (fn (fn (fn (fn (fn (fn (fn (fn (fn (fn (fn (fn (fn (fn (fn (fn (fn (fn (fn (fn (fn (fn (fn (fn (fn (fn (fn (fn (fn (fn (fn (fn (fn (fn (fn (fn (fn (fn (fn (fn (fn (fn (fn (fn (fn (fn (fn (fn (fn (fn (fn (fn (fn (fn (fn (fn (fn (fn (fn (fn (fn (fn (fn (fn (fn (fn (fn (fn (fn (fn (fn (fn f0)))))))))))))))))))))))))))))))))))))))))))))))))))))))))))))))))))))))))))))))))))))))))))))))))))))))))))))))))), rfl, by omega, hF, by omega, H14⟩
    · clear hf1 hf2 hf3 hf4 hwq
      refine ops_nil ?_
      change Run _ _ _ _ [_, _, _, _, _, _, _, _, _, _, _, _, _, _, _, _, _, _, _, _, _, _, _, _, _, _, _, _, _, _, _, _, _, _, _, _, _, _, _, _, _, _, _, _, _, _, _, _, _, _, _, _, _, _, _, _, _, _, _, _, _, _, _, _, _, _, _, _, _, _, _, _, _, _, _, _, _, _, _, _, _, _, _, _, _, _, _, _, _, _, _, _, _, _, _, _, _, _, _, _, _, _, _, _, _, _, _, _, _, _, _, _, _, _] _
      refine run_cond_false rfl ?_
      refine run_exit ?_
      refine rnd_exit ?_
      refine blk_exit ?_
      refine run_seq ?_
      refine run_seq ?_
      refine run_region ?_
      refine ops_val (ex_move rfl) ?_
      have hk := (down_any gd gk gw cw sp (D0) _ (H11.pick [0, 1, 2] (by decide)).here hO)
      refine ops_call_val (ex_call gf23 rfl) hk ?_
      intro w12 Hd
      have H12 := (H11.callr [0, 1, 2] rfl Hd).pick [9, 10, 11, 3, 4, 5, 6, 7, 8] (by decide)
      refine ops_val (ex_move rfl) ?_
      have hk := (down_any gg gr gy cy sy (G) _ (H12.pick [6, 7, 8] (by decide)).here hG)
      rw [hg3] at hk
      refine ops_call_val (ex_call gf23 rfl) hk ?_
      intro w13 Hd
      have H13 := (H12.callr [6, 7, 8] rfl Hd).pick [0, 1, 2, 3, 4, 5, 9, 10, 11] (by decide)
      change Ops _ _ _ _ _ _ [_, _, _, _, _, _, _, _, _, _, _, _, _, _, _, _, _, _, _, _, _, _, _, _, _, _, _, _, _, _, _, _, _, _, _, _, _, _, _, _, _, _, _, _, _, _, _, _, _, _, _, _, _, _, _, _, _, _, _, _, _, _, _, _, _, _, _, _, _, _, _, _, _, _, _, _, _, _, _, _, _, _, _, _, _, _, _, _, _, _, _, _, _, _, _, _, _, _, _, _, _, _, _, _, _, _, _, _, _, _, _, _, _, _] _
      refine ops_false (ex_neq_bool Try.underlying4 rfl rfl) (by simp) ?_
      refine ops_val (ex_move rfl) ?_
      change Ops _ _ _ _ _ _ [_, _, _, _, _, _, _, _, _, _, _, _, _, _, _, _, _, _, _, _, _, _, _, _, _, _, _, _, _, _, _, _, _, _, _, _, _, _, _, _, _, _, _, _, _, _, _, _, _, _, _, _, _, _, _, _, _, _, _, _, _, _, _, _, _, _, _, _, _, _, _, _, _, _, _, _, _, _, _, _, _, _, _, _, _, _, _, _, _, _, _, _, _, _, _, _, _, _, _, _, _, _, _, _, _, _, _, _, _, _, _, _, _, _] _
      refine ops_yes rfl ?_
      refine ops_val (ex_move rfl) ?_
      refine ops_yes rfl ?_
      have hk := (waiting_any gd gk gw cw sp (D0) _ (H13.pick [0, 1, 2] (by decide)).here hO)
      refine ops_call_val (ex_call gf18 rfl) hk ?_
      intro w14 Hd
      have H14 := (H13.callr [0, 1, 2] rfl Hd).pick [9, 10, 11, 3, 4, 5, 6, 7, 8] (by decide)
      change Ops _ _ _ _ _ _ [_, _, _, _, _, _, _, _, _, _, _, _, _, _, _, _, _, _, _, _, _, _, _, _, _, _, _, _, _, _, _, _, _, _, _, _, _, _, _, _, _, _, _, _, _, _, _, _, _, _, _, _, _, _, _, _, _, _, _, _, _, _, _, _, _, _, _, _, _, _, _, _, _, _, _, _, _, _, _, _, _, _, _, _, _, _, _, _, _, _, _, _, _, _, _, _, _, _, _, _, _, _, _, _, _, _, _, _, _, _, _, _, _, _] _
      refine ops_yes rfl ?_
      refine ops_val (ex_move rfl) ?_
      refine ops_yes rfl ?_
      have hk := (waiting_any gg gr gy cy sy (G) _ (H14.pick [6, 7, 8] (by decide)).here hG)
      rw [hg2] at hk
      refine ops_call_val (ex_call gf18 rfl) hk ?_
      intro w15 Hd
      have H15 := (H14.callr [6, 7, 8] rfl Hd).pick [0, 1, 2, 3, 4, 5, 9, 10, 11] (by decide)
      change Ops _ _ _ _ _ _ [_, _, _, _, _, _, _, _, _, _, _, _, _, _, _, _, _, _, _, _, _, _, _, _, _, _, _, _, _, _, _, _, _, _, _, _, _, _, _, _, _, _, _, _, _, _, _, _, _, _, _, _, _, _, _, _, _, _, _, _, _, _, _, _, _, _, _, _, _, _, _, _, _, _, _, _, _, _, _, _, _, _, _, _, _, _, _, _, _, _, _, _, _, _, _, _, _, _, _, _, _, _, _, _, _, _, _, _, _, _, _, _, _, _] _
      refine ops_yes rfl ?_
      refine ops_false (ex_neq rfl rfl) (by simp) ?_
      refine ops_val (ex_pick_f rfl rfl) ?_
      refine ops_nil ?_
      change Run _ _ _ _ [_, _, _, _, _, _, _, _, _, _, _, _, _, _, _, _, _, _, _, _, _, _, _, _, _, _, _, _, _, _, _, _, _, _, _, _, _, _, _, _, _, _, _, _, _, _, _, _, _, _, _, _, _, _, _, _, _, _, _, _, _, _, _, _, _, _, _, _, _, _, _, _, _, _, _, _, _, _, _, _, _, _, _, _, _, _, _, _, _, _, _, _, _, _, _, _, _, _, _, _, _, _, _, _, _, _, _, _, _, _, _, _, _, _] _
      refine run_cond_false rfl ?_
      refine run_skip ?_
      refine run_seq ?_
      refine run_seq ?_
      refine run_region ?_
      refine ops_val (ex_move rfl) ?_
      have hk := (down_any gd gk gw cw sp (D0) _ (H15.pick [0, 1, 2] (by decide)).here hO)
      refine ops_call_val (ex_call gf23 rfl) hk ?_
      intro w16 Hd
      have H16 := (H15.callr [0, 1, 2] rfl Hd).pick [9, 10, 11, 3, 4, 5, 6, 7, 8] (by decide)
      refine ops_nil ?_
      change Run _ _ _ _ [_, _, _, _, _, _, _, _, _, _, _, _, _, _, _, _, _, _, _, _, _, _, _, _, _, _, _, _, _, _, _, _, _, _, _, _, _, _, _, _, _, _, _, _, _, _, _, _, _, _, _, _, _, _, _, _, _, _, _, _, _, _, _, _, _, _, _, _, _, _, _, _, _, _, _, _, _, _, _, _, _, _, _, _, _, _, _, _, _, _, _, _, _, _, _, _, _, _, _, _, _, _, _, _, _, _, _, _, _, _, _, _, _, _] _
      refine run_cond rfl (fun hb104 => ?_) (fun hb104 => ?_)
      · skip
        refine run_seq ?_
        refine run_region ?_
        refine ops_val (ex_move rfl) ?_
        have hk := (start_any gd gk gw cw sp (D0) _ (H16.pick [0, 1, 2] (by decide)).here hO)
        refine ops_call_val (ex_call gf10 rfl) hk ?_
        intro w17 ⟨gw, cw, sp, hO, Hd⟩
        have H17 := (H16.callr [0, 1, 2] rfl Hd).pick [9, 10, 11, 3, 4, 5, 6, 7, 8] (by decide)
        refine ops_nil ?_
        change Run _ _ _ _ [_, _, _, _, _, _, _, _, _, _, _, _, _, _, _, _, _, _, _, _, _, _, _, _, _, _, _, _, _, _, _, _, _, _, _, _, _, _, _, _, _, _, _, _, _, _, _, _, _, _, _, _, _, _, _, _, _, _, _, _, _, _, _, _, _, _, _, _, _, _, _, _, _, _, _, _, _, _, _, _, _, _, _, _, _, _, _, _, _, _, _, _, _, _, _, _, _, _, _, _, _, _, _, _, _, _, _, _, _, _, _, _, _, _] _
        refine run_region ?_
        refine ops_val (ex_move rfl) ?_
        have hk := (start_any gg gr gy cy sy (G) _ (H17.pick [6, 7, 8] (by decide)).here hG)
        refine ops_call_val (ex_call gf10 rfl) hk ?_
        intro w18 ⟨gy, cy, sy, hG, Hd⟩
        have H18 := (H17.callr [6, 7, 8] rfl Hd).pick [0, 1, 2, 3, 4, 5, 9, 10, 11] (by decide)
        have hdn := start_up D0
        have hdg := start_up G
        obtain ⟨hg1, hg2⟩ := start_alike hg1 hg2 hg3
        obtain ⟨hb1, hb2⟩ := start_bd D0
        obtain ⟨hb3, hb4⟩ := start_bd G
        have hw0 : D0.start.wait.length ≤ s.length := by omega
        have hk40 : D0.start.kept.length ≤ 40 := by omega
        have hkpos : 0 < D0.start.kept.length := by omega
        clear hb1 hb2 hb3 hb4
        generalize D0.start = D2 at *
        generalize G.start = G2 at *
        have hg3 : G2.down = D2.down := by rw [hdn, hdg]
        refine ops_nil ?_
        change Run _ _ _ _ [_, _, _, _, _, _, _, _, _, _, _, _, _, _, _, _, _, _, _, _, _, _, _, _, _, _, _, _, _, _, _, _, _, _, _, _, _, _, _, _, _, _, _, _, _, _, _, _, _, _, _, _, _, _, _, _, _, _, _, _, _, _, _, _, _, _, _, _, _, _, _, _, _, _, _, _, _, _, _, _, _, _, _, _, _, _, _, _, _, _, _, _, _, _, _, _, _, _, _, _, _, _, _, _, _, _, _, _, _, _, _, _, _, _] _
        refine run_seq ?_
        refine run_region ?_
        refine ops_val (ex_move rfl) ?_
        have Hgb := (H18.pick [6, 7, 8] (by decide)).here
        have hk := all_any gd gk gw cw sp D2 _ (H18.pick [0, 1, 2] (by decide)).here hO hdn (by omega)
        refine ops_call (ex_call gf19 rfl) hk ?_
        rintro _ w19 ⟨gl1, cl1, sl1, xs1, rfl, hc1, hcc1, hL1, hFr1, Hd⟩
        have H19 := (H18.callr [0, 1, 2] rfl Hd).pick [6, 7, 8, 12] (by decide)
        have hLw := hL1.wide hFr1 Hgb
        refine ops_val (ex_move rfl) ?_
        have hk := all_any gg gr gy cy sy G2 _ (H19.pick [0, 1, 2] (by decide)).here hG (hg3.trans hdn) (by rw [hg2]; omega)
        rw [shown_eq hg1 hg2, hg1] at hk
        refine ops_call (ex_call gf19 rfl) hk ?_
        rintro _ w20 ⟨gl2, cl2, sl2, xs2, rfl, hc2, hcc2, hL2, hFr2, Hd⟩
        have H20 := (H19.callr [0, 1, 2] rfl Hd).pick [3, 7] (by decide)
        have hL3 := hLw.to Hd
        change Ops _ _ _ _ _ _ [_, _, _, _, _, _, _, _, _, _, _, _, _, _, _, _, _, _, _, _, _, _, _, _, _, _, _, _, _, _, _, _, _, _, _, _, _, _, _, _, _, _, _, _, _, _, _, _, _, _, _, _, _, _, _, _, _, _, _, _, _, _, _, _, _, _, _, _, _, _, _, _, _, _, _, _, _, _, _, _, _, _, _, _, _, _, _, _, _, _, _, _, _, _, _, _, _, _, _, _, _, _, _, _, _, _, _, _, _, _, _, _, _, _] _
        have hlen : (D2.shown D2.kept.length).length = D2.kept.length := by simp [Dk.shown]
        have h64s : ∀ b ∈ D2.shown D2.kept.length, b.length = 64 := fun b hb => by
          obtain ⟨i, hi, rfl⟩ := List.mem_map.1 hb
          exact show_len hO (List.mem_range.1 hi)
        have hA := H20.rd (i := 0) (o := gl1) (xs := xs1) (sp := sl1) (n := D2.kept.length) (sz := 1) rfl (by rw [hL3.1, hlen, Nat.mul_one]) (by decide)
        have hB := H20.rd (i := 1) (o := gl2) (xs := xs2) (sp := sl2) (n := D2.kept.length) (sz := 1) rfl (by rw [hL2.1, hlen, Nat.mul_one]) (by decide)
        have hk := lists_any (hd gl1) (hd gl2) (D2.shown D2.kept.length) cl1 cl2 xs1 xs2 _ (by rw [hlen]; exact hA) (by rw [hlen]; exact hB) (fun i h => (hL3.2 i h).2.imp fun C hC => hC.imp fun k hk => ⟨hk.1, hk.2.1⟩) (fun i h => (hL2.2 i h).2.imp fun C hC => hC.imp fun k hk => ⟨hk.1, hk.2.1⟩) (by rw [hlen]; omega) h64s
        rw [hlen] at hk
        refine ops_call_val (ex_call gf21 rfl) hk ?_
        intro w21 Hd
        have H21 := H20.call0 Hd
        refine ops_val (ex_assign rfl) ?_
        refine ops_nil ?_
        change Run _ _ _ _ [_, _, _, _, _, _, _, _, _, _, _, _, _, _, _, _, _, _, _, _, _, _, _, _, _, _, _, _, _, _, _, _, _, _, _, _, _, _, _, _, _, _, _, _, _, _, _, _, _, _, _, _, _, _, _, _, _, _, _, _, _, _, _, _, _, _, _, _, _, _, _, _, _, _, _, _, _, _, _, _, _, _, _, _, _, _, _, _, _, _, _, _, _, _, _, _, _, _, _, _, _, _, _, _, _, _, _, _, _, _, _, _, _, _] _
        refine run_ret ?_
        refine fin_ret1 rfl rfl ?_
        exact ⟨rfl, H21.pick [] (by decide)⟩
      · have hdn := hb104
        generalize D0 = D2 at *
        generalize G = G2 at *
        refine run_skip ?_
        refine run_seq ?_
        refine run_region ?_
        refine ops_val (ex_move rfl) ?_
        have Hgb := (H16.pick [6, 7, 8] (by decide)).here
        have hk := all_any gd gk gw cw sp D2 _ (H16.pick [0, 1, 2] (by decide)).here hO hdn (by omega)
        refine ops_call (ex_call gf19 rfl) hk ?_
        rintro _ w17 ⟨gl1, cl1, sl1, xs1, rfl, hc1, hcc1, hL1, hFr1, Hd⟩
        have H17 := (H16.callr [0, 1, 2] rfl Hd).pick [6, 7, 8, 12] (by decide)
        have hLw := hL1.wide hFr1 Hgb
        refine ops_val (ex_move rfl) ?_
        have hk := all_any gg gr gy cy sy G2 _ (H17.pick [0, 1, 2] (by decide)).here hG (hg3.trans hdn) (by rw [hg2]; omega)
        rw [shown_eq hg1 hg2, hg1] at hk
        refine ops_call (ex_call gf19 rfl) hk ?_
        rintro _ w18 ⟨gl2, cl2, sl2, xs2, rfl, hc2, hcc2, hL2, hFr2, Hd⟩
        have H18 := (H17.callr [0, 1, 2] rfl Hd).pick [3, 7] (by decide)
        have hL3 := hLw.to Hd
        change Ops _ _ _ _ _ _ [_, _, _, _, _, _, _, _, _, _, _, _, _, _, _, _, _, _, _, _, _, _, _, _, _, _, _, _, _, _, _, _, _, _, _, _, _, _, _, _, _, _, _, _, _, _, _, _, _, _, _, _, _, _, _, _, _, _, _, _, _, _, _, _, _, _, _, _, _, _, _, _, _, _, _, _, _, _, _, _, _, _, _, _, _, _, _, _, _, _, _, _, _, _, _, _, _, _, _, _, _, _, _, _, _, _, _, _, _, _, _, _, _, _] _
        have hlen : (D2.shown D2.kept.length).length = D2.kept.length := by simp [Dk.shown]
        have h64s : ∀ b ∈ D2.shown D2.kept.length, b.length = 64 := fun b hb => by
          obtain ⟨i, hi, rfl⟩ := List.mem_map.1 hb
          exact show_len hO (List.mem_range.1 hi)
        have hA := H18.rd (i := 0) (o := gl1) (xs := xs1) (sp := sl1) (n := D2.kept.length) (sz := 1) rfl (by rw [hL3.1, hlen, Nat.mul_one]) (by decide)
        have hB := H18.rd (i := 1) (o := gl2) (xs := xs2) (sp := sl2) (n := D2.kept.length) (sz := 1) rfl (by rw [hL2.1, hlen, Nat.mul_one]) (by decide)
        have hk := lists_any (hd gl1) (hd gl2) (D2.shown D2.kept.length) cl1 cl2 xs1 xs2 _ (by rw [hlen]; exact hA) (by rw [hlen]; exact hB) (fun i h => (hL3.2 i h).2.imp fun C hC => hC.imp fun k hk => ⟨hk.1, hk.2.1⟩) (fun i h => (hL2.2 i h).2.imp fun C hC => hC.imp fun k hk => ⟨hk.1, hk.2.1⟩) (by rw [hlen]; omega) h64s
        rw [hlen] at hk
        refine ops_call_val (ex_call gf21 rfl) hk ?_
        intro w19 Hd
        have H19 := H18.call0 Hd
        refine ops_val (ex_assign rfl) ?_
        refine ops_nil ?_
        change Run _ _ _ _ [_, _, _, _, _, _, _, _, _, _, _, _, _, _, _, _, _, _, _, _, _, _, _, _, _, _, _, _, _, _, _, _, _, _, _, _, _, _, _, _, _, _, _, _, _, _, _, _, _, _, _, _, _, _, _, _, _, _, _, _, _, _, _, _, _, _, _, _, _, _, _, _, _, _, _, _, _, _, _, _, _, _, _, _, _, _, _, _, _, _, _, _, _, _, _, _, _, _, _, _, _, _, _, _, _, _, _, _, _, _, _, _, _, _] _
        refine run_ret ?_
        refine fin_ret1 rfl rfl ?_
        exact ⟨rfl, H19.pick [] (by decide)⟩
end Go.Proofs.Ytnlajgeehlpdaaa
