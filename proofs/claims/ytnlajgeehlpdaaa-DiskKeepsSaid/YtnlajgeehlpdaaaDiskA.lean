/- Walks of layer 2, printed by wip/gen/codec.py. -/
import Derived.Test.YtnlajgeehlpdaaaDisk
namespace Go.Proofs.Ytnlajgeehlpdaaa
open Go Go.RowKit
set_option linter.unusedVariables false
attribute [local irreducible] Still Ops Does Cd
theorem pl57 : placesOf Try.prog 57 = some [(0, 1), (1, 1), (2, 1), (3, 1)] := by kernel_rfl
theorem pl61 : placesOf Try.prog 61 = some [(0, 1), (1, 64)] := by kernel_rfl
set_option maxRecDepth 100000 in
set_option maxHeartbeats 4000000 in
theorem ready_any (gd gk : Nat) (gw : Option Nat) (cw : Nat) (sp : List Value) (D : Dk) (w0 : World) (H0 : Hp w0 w0 (bl (dRows gd gk gw cw sp D)) (dRows gd gk gw cw sp D)) (hD : DOk D gw cw sp) :
    Does Try.prog 26 #[.pointer (some ⟨gd, 0, none⟩)] w0 (fun r w' => r = .int .i64 (if D.down = true then 40 else 0 : Int) ∧ Hp w0 w' (bl (dRows gd gk gw cw sp D)) (dRows gd gk gw cw sp D)) := by
  refine does_of Try.func26 Try.ntmps26 rfl ?_
  change Run _ _ _ _ [.pointer (some ⟨gd, 0, none⟩), undef, undef, undef, undef, undef, undef, undef, undef, undef, undef] _
  have H := H0
  obtain ⟨hpos, hmost, hk64, hw64, hwcap, hcap, hnil, harm⟩ := hD
  refine run_seq ?_
  refine run_region ?_
  refine ops_val (ex_assign rfl) ?_
  refine ops_nil ?_
  change Run _ _ _ _ [_, _, _, _, _, _, _, _, _, _, _] _
  refine run_seq ?_
  refine run_block ?_
  refine run_seq ?_
  refine run_region ?_
  refine ops_val (ex_move rfl) ?_
  refine ops_false (ex_eql_nil_ptr Try.underlying24 rfl) (by simp) ?_
  refine ops_val (ex_assign rfl) ?_
  refine ops_nil ?_
  change Run _ _ _ _ [_, _, _, _, _, _, _, _, _, _, _] _
  refine run_cond_false rfl ?_
  refine run_seq ?_
  refine run_region ?_
  refine ops_val (ex_move rfl) ?_
  refine ops_val (ex_nilCheck rfl) ?_
  refine ops_val (ex_fieldAddr fl57_2 rfl) ?_
  refine ops_val (ex_load ty4 rfl (H.cell (i := 0) rfl rfl)) ?_
  change Ops _ _ _ _ _ _ [_, _, _, _, _, _, _, _, _, _, _] _
  refine ops_val (ex_assign rfl) ?_
  refine ops_nil ?_
  change Run _ _ _ _ [_, _, _, _, _, _, _, _, _, _, _] _
  refine run_cond rfl (fun hb6 => ?_) (fun hb6 => ?_)
  · rw [if_pos hb6]
    refine run_seq ?_
    refine run_region ?_
    refine ops_val (ex_assign rfl) ?_
    refine ops_nil ?_
    change Run _ _ _ _ [_, _, _, _, _, _, _, _, _, _, _] _
    refine run_ret ?_
    refine blk_ret ?_
    refine fin_ret1 rfl rfl ?_
    exact ⟨rfl, H⟩
  · rw [if_neg (by rw [hb6]; decide)]
    refine run_skip ?_
    refine run_nil (blk_normal ?_)
    refine run_seq ?_
    refine run_region ?_
    refine ops_val (ex_assign rfl) ?_
    refine ops_nil ?_
    change Run _ _ _ _ [_, _, _, _, _, _, _, _, _, _, _] _
    refine run_ret ?_
    refine fin_ret1 rfl rfl ?_
    exact ⟨rfl, H⟩
set_option maxRecDepth 100000 in
set_option maxHeartbeats 4000000 in
theorem ready_nil (w0 : World) :
    Does Try.prog 26 #[.pointer none] w0 (fun r w' => r = .int .i64 2 ∧ w' = w0) := by
  refine does_of Try.func26 Try.ntmps26 rfl ?_
  change Run _ _ _ _ [.pointer none, undef, undef, undef, undef, undef, undef, undef, undef, undef, undef] _
  have H := Hp.refl w0
  refine run_seq ?_
  refine run_region ?_
  refine ops_val (ex_assign rfl) ?_
  refine ops_nil ?_
  change Run _ _ _ _ [_, _, _, _, _, _, _, _, _, _, _] _
  refine run_seq ?_
  refine run_block ?_
  refine run_seq ?_
  refine run_region ?_
  refine ops_val (ex_move rfl) ?_
  refine ops_true (ex_eql_nil_ptr Try.underlying24 rfl) (rfl) ?_
  refine ops_val (ex_assign rfl) ?_
  refine ops_nil ?_
  change Run _ _ _ _ [_, _, _, _, _, _, _, _, _, _, _] _
  refine run_cond_true rfl ?_
  refine run_seq ?_
  refine run_region ?_
  refine ops_val (ex_assign rfl) ?_
  refine ops_nil ?_
  change Run _ _ _ _ [_, _, _, _, _, _, _, _, _, _, _] _
  refine run_ret ?_
  refine blk_ret ?_
  refine fin_ret1 rfl rfl ?_
  exact ⟨rfl, rfl⟩
set_option maxRecDepth 100000 in
set_option maxHeartbeats 4000000 in
theorem arm_nil (w0 : World) (n : Int) :
    Does Try.prog 11 #[.pointer none, .int .i64 n] w0 (fun r w' => r = .int .i64 2 ∧ w' = w0) := by
  refine does_of Try.func11 Try.ntmps11 rfl ?_
  change Run _ _ _ _ [.pointer none, .int .i64 n, undef, undef, undef, undef, undef, undef, undef, undef, undef, undef, undef, undef, undef, undef] _
  have H := Hp.refl w0
  refine run_seq ?_
  refine run_region ?_
  refine ops_val (ex_assign rfl) ?_
  refine ops_nil ?_
  change Run _ _ _ _ [_, _, _, _, _, _, _, _, _, _, _, _, _, _, _, _] _
  refine run_seq ?_
  refine run_seq ?_
  refine run_region ?_
  refine ops_val (ex_move rfl) ?_
  refine ops_call_eq (ex_call gf26 rfl) (ready_nil _) ?_
  refine ops_val (ex_assign rfl) ?_
  refine ops_nil ?_
  change Run _ _ _ _ [_, _, _, _, _, _, _, _, _, _, _, _, _, _, _, _] _
  refine run_seq ?_
  refine run_region ?_
  refine ops_val (ex_move rfl) ?_
  refine ops_true (ex_neq rfl rfl) (by decide) ?_
  refine ops_nil ?_
  change Run _ _ _ _ [_, _, _, _, _, _, _, _, _, _, _, _, _, _, _, _] _
  refine run_cond_true rfl ?_
  refine run_seq ?_
  refine run_region ?_
  refine ops_val (ex_move rfl) ?_
  refine ops_val (ex_assign rfl) ?_
  refine ops_nil ?_
  change Run _ _ _ _ [_, _, _, _, _, _, _, _, _, _, _, _, _, _, _, _] _
  refine run_ret ?_
  refine fin_ret1 rfl rfl ?_
  exact ⟨rfl, rfl⟩
set_option maxRecDepth 100000 in
set_option maxHeartbeats 4000000 in
theorem size_nil (w0 : World) :
    Does Try.prog 12 #[.pointer none] w0 (fun r w' => r = .int .i64 0 ∧ w' = w0) := by
  refine does_of Try.func12 Try.ntmps12 rfl ?_
  change Run _ _ _ _ [.pointer none, undef, undef, undef, undef, undef, undef, undef, undef, undef] _
  have H := Hp.refl w0
  refine run_seq ?_
  refine run_region ?_
  refine ops_val (ex_assign rfl) ?_
  refine ops_nil ?_
  change Run _ _ _ _ [_, _, _, _, _, _, _, _, _, _] _
  refine run_seq ?_
  refine run_seq ?_
  refine run_region ?_
  refine ops_val (ex_move rfl) ?_
  refine ops_true (ex_eql_nil_ptr Try.underlying24 rfl) (rfl) ?_
  refine ops_nil ?_
  change Run _ _ _ _ [_, _, _, _, _, _, _, _, _, _] _
  refine run_cond_true rfl ?_
  refine run_seq ?_
  refine run_region ?_
  refine ops_val (ex_assign rfl) ?_
  refine ops_nil ?_
  change Run _ _ _ _ [_, _, _, _, _, _, _, _, _, _] _
  refine run_ret ?_
  refine fin_ret1 rfl rfl ?_
  exact ⟨rfl, rfl⟩
set_option maxRecDepth 100000 in
set_option maxHeartbeats 4000000 in
theorem waiting_nil (w0 : World) :
    Does Try.prog 18 #[.pointer none] w0 (fun r w' => r = .int .i64 0 ∧ w' = w0) := by
  refine does_of Try.func18 Try.ntmps18 rfl ?_
  change Run _ _ _ _ [.pointer none, undef, undef, undef, undef, undef, undef, undef, undef, undef] _
  have H := Hp.refl w0
  refine run_seq ?_
  refine run_region ?_
  refine ops_val (ex_assign rfl) ?_
  refine ops_nil ?_
  change Run _ _ _ _ [_, _, _, _, _, _, _, _, _, _] _
  refine run_seq ?_
  refine run_seq ?_
  refine run_region ?_
  refine ops_val (ex_move rfl) ?_
  refine ops_true (ex_eql_nil_ptr Try.underlying24 rfl) (rfl) ?_
  refine ops_nil ?_
  change Run _ _ _ _ [_, _, _, _, _, _, _, _, _, _] _
  refine run_cond_true rfl ?_
  refine run_seq ?_
  refine run_region ?_
  refine ops_val (ex_assign rfl) ?_
  refine ops_nil ?_
  change Run _ _ _ _ [_, _, _, _, _, _, _, _, _, _] _
  refine run_ret ?_
  refine fin_ret1 rfl rfl ?_
  exact ⟨rfl, rfl⟩
set_option maxRecDepth 100000 in
set_option maxHeartbeats 4000000 in
theorem start_nil (w0 : World) :
    Does Try.prog 10 #[.pointer none] w0 (fun r w' => r = .int .i64 2 ∧ w' = w0) := by
  refine does_of Try.func10 Try.ntmps10 rfl ?_
  change Run _ _ _ _ [.pointer none, undef, undef, undef, undef, undef, undef, undef, undef, undef, undef, undef, undef, undef, undef, undef, undef, undef] _
  have H := Hp.refl w0
  refine run_seq ?_
  refine run_region ?_
  refine ops_val (ex_assign rfl) ?_
  refine ops_nil ?_
  change Run _ _ _ _ [_, _, _, _, _, _, _, _, _, _, _, _, _, _, _, _, _, _] _
  refine run_seq ?_
  refine run_seq ?_
  refine run_region ?_
  refine ops_val (ex_move rfl) ?_
  refine ops_true (ex_eql_nil_ptr Try.underlying24 rfl) (rfl) ?_
  refine ops_nil ?_
  change Run _ _ _ _ [_, _, _, _, _, _, _, _, _, _, _, _, _, _, _, _, _, _] _
  refine run_cond_true rfl ?_
  refine run_seq ?_
  refine run_region ?_
  refine ops_val (ex_assign rfl) ?_
  refine ops_nil ?_
  change Run _ _ _ _ [_, _, _, _, _, _, _, _, _, _, _, _, _, _, _, _, _, _] _
  refine run_ret ?_
  refine fin_ret1 rfl rfl ?_
  exact ⟨rfl, rfl⟩
set_option maxRecDepth 100000 in
set_option maxHeartbeats 4000000 in
theorem write_nil (w0 : World) (n : Int) (v : Value) :
    Does Try.prog 13 #[.pointer none, .int .i64 n, v] w0 (fun r w' => r = .int .i64 2 ∧ w' = w0) := by
  refine does_of Try.func13 Try.ntmps13 rfl ?_
  change Run _ _ _ _ [.pointer none, .int .i64 n, v, undef, undef, undef, undef, undef, undef, undef, undef, undef, undef, undef, undef, undef, undef, undef, undef, undef, undef, undef, undef, undef, undef, undef, undef, undef, undef, undef, undef, undef, undef, undef, undef, undef, undef, undef, undef, undef, undef, undef, undef, undef, undef, undef] _
  have H := Hp.refl w0
  refine run_seq ?_
  refine run_region ?_
  refine ops_val (ex_assign rfl) ?_
  refine ops_nil ?_
  change Run _ _ _ _ [_, _, _, _, _, _, _, _, _, _, _, _, _, _, _, _, _, _, _, _, _, _, _, _, _, _, _, _, _, _, _, _, _, _, _, _, _, _, _, _, _, _, _, _, _, _] _
  refine run_seq ?_
  refine run_seq ?_
  refine run_region ?_
  refine ops_val (ex_move rfl) ?_
  refine ops_call_eq (ex_call gf26 rfl) (ready_nil _) ?_
  refine ops_val (ex_assign rfl) ?_
  refine ops_nil ?_
  change Run _ _ _ _ [_, _, _, _, _, _, _, _, _, _, _, _, _, _, _, _, _, _, _, _, _, _, _, _, _, _, _, _, _, _, _, _, _, _, _, _, _, _, _, _, _, _, _, _, _, _] _
  refine run_seq ?_
  refine run_region ?_
  refine ops_val (ex_move rfl) ?_
  refine ops_true (ex_neq rfl rfl) (by decide) ?_
  refine ops_nil ?_
  change Run _ _ _ _ [_, _, _, _, _, _, _, _, _, _, _, _, _, _, _, _, _, _, _, _, _, _, _, _, _, _, _, _, _, _, _, _, _, _, _, _, _, _, _, _, _, _, _, _, _, _] _
  refine run_cond_true rfl ?_
  refine run_seq ?_
  refine run_region ?_
  refine ops_val (ex_move rfl) ?_
  refine ops_val (ex_assign rfl) ?_
  refine ops_nil ?_
  change Run _ _ _ _ [_, _, _, _, _, _, _, _, _, _, _, _, _, _, _, _, _, _, _, _, _, _, _, _, _, _, _, _, _, _, _, _, _, _, _, _, _, _, _, _, _, _, _, _, _, _] _
  refine run_ret ?_
  refine fin_ret1 rfl rfl ?_
  exact ⟨rfl, rfl⟩
set_option maxRecDepth 100000 in
set_option maxHeartbeats 4000000 in
theorem read_nil (w0 : World) (n : Int) :
    Does Try.prog 15 #[.pointer none, .int .i64 n] w0 (fun r w' => r = .tuple #[.slice none 0 0, .int .i64 2] ∧ w' = w0) := by
  refine does_of Try.func15 Try.ntmps15 rfl ?_
  change Run _ _ _ _ [.pointer none, .int .i64 n, undef, undef, undef, undef, undef, undef, undef, undef, undef, undef, undef, undef, undef, undef, undef, undef, undef, undef, undef, undef, undef, undef, undef, undef, undef, undef, undef, undef, undef, undef, undef, undef, undef, undef, undef, undef, undef, undef, undef, undef, undef, undef, undef, undef, undef, undef, undef, undef, undef, undef, undef, undef, undef, undef, undef, undef, undef, undef, undef, undef] _
  have H := Hp.refl w0
  refine run_seq ?_
  refine run_region ?_
  refine ops_val (ex_assign rfl) ?_
  refine ops_val (ex_assign rfl) ?_
  refine ops_nil ?_
  change Run _ _ _ _ [_, _, _, _, _, _, _, _, _, _, _, _, _, _, _, _, _, _, _, _, _, _, _, _, _, _, _, _, _, _, _, _, _, _, _, _, _, _, _, _, _, _, _, _, _, _, _, _, _, _, _, _, _, _, _, _, _, _, _, _, _, _] _
  refine run_seq ?_
  refine run_seq ?_
  refine run_region ?_
  refine ops_val (ex_move rfl) ?_
  refine ops_call_eq (ex_call gf26 rfl) (ready_nil _) ?_
  refine ops_val (ex_assign rfl) ?_
  refine ops_nil ?_
  change Run _ _ _ _ [_, _, _, _, _, _, _, _, _, _, _, _, _, _, _, _, _, _, _, _, _, _, _, _, _, _, _, _, _, _, _, _, _, _, _, _, _, _, _, _, _, _, _, _, _, _, _, _, _, _, _, _, _, _, _, _, _, _, _, _, _, _] _
  refine run_seq ?_
  refine run_region ?_
  refine ops_val (ex_move rfl) ?_
  refine ops_true (ex_neq rfl rfl) (by decide) ?_
  refine ops_nil ?_
  change Run _ _ _ _ [_, _, _, _, _, _, _, _, _, _, _, _, _, _, _, _, _, _, _, _, _, _, _, _, _, _, _, _, _, _, _, _, _, _, _, _, _, _, _, _, _, _, _, _, _, _, _, _, _, _, _, _, _, _, _, _, _, _, _, _, _, _] _
  refine run_cond_true rfl ?_
  refine run_seq ?_
  refine run_region ?_
  refine ops_val (ex_move rfl) ?_
  refine ops_val (ex_assign rfl) ?_
  refine ops_val (ex_assign rfl) ?_
  refine ops_nil ?_
  change Run _ _ _ _ [_, _, _, _, _, _, _, _, _, _, _, _, _, _, _, _, _, _, _, _, _, _, _, _, _, _, _, _, _, _, _, _, _, _, _, _, _, _, _, _, _, _, _, _, _, _, _, _, _, _, _, _, _, _, _, _, _, _, _, _, _, _] _
  refine run_ret ?_
  refine fin_ret2 rfl rfl rfl ?_
  exact ⟨rfl, rfl⟩
set_option maxRecDepth 100000 in
set_option maxHeartbeats 4000000 in
theorem sync_nil (w0 : World) :
    Does Try.prog 17 #[.pointer none] w0 (fun r w' => r = .int .i64 2 ∧ w' = w0) := by
  refine does_of Try.func17 Try.ntmps17 rfl ?_
  change Run _ _ _ _ [.pointer none, undef, undef, undef, undef, undef, undef, undef, undef, undef, undef, undef, undef, undef, undef, undef, undef, undef, undef, undef, undef, undef, undef, undef, undef, undef, undef, undef, undef, undef, undef, undef, undef, undef, undef, undef, undef, undef] _
  have H := Hp.refl w0
  refine run_seq ?_
  refine run_region ?_
  refine ops_val (ex_assign rfl) ?_
  refine ops_nil ?_
  change Run _ _ _ _ [_, _, _, _, _, _, _, _, _, _, _, _, _, _, _, _, _, _, _, _, _, _, _, _, _, _, _, _, _, _, _, _, _, _, _, _, _, _] _
  refine run_seq ?_
  refine run_seq ?_
  refine run_region ?_
  refine ops_val (ex_move rfl) ?_
  refine ops_call_eq (ex_call gf26 rfl) (ready_nil _) ?_
  refine ops_val (ex_assign rfl) ?_
  refine ops_nil ?_
  change Run _ _ _ _ [_, _, _, _, _, _, _, _, _, _, _, _, _, _, _, _, _, _, _, _, _, _, _, _, _, _, _, _, _, _, _, _, _, _, _, _, _, _] _
  refine run_seq ?_
  refine run_region ?_
  refine ops_val (ex_move rfl) ?_
  refine ops_true (ex_neq rfl rfl) (by decide) ?_
  refine ops_nil ?_
  change Run _ _ _ _ [_, _, _, _, _, _, _, _, _, _, _, _, _, _, _, _, _, _, _, _, _, _, _, _, _, _, _, _, _, _, _, _, _, _, _, _, _, _] _
  refine run_cond_true rfl ?_
  refine run_seq ?_
  refine run_region ?_
  refine ops_val (ex_move rfl) ?_
  refine ops_val (ex_assign rfl) ?_
  refine ops_nil ?_
  change Run _ _ _ _ [_, _, _, _, _, _, _, _, _, _, _, _, _, _, _, _, _, _, _, _, _, _, _, _, _, _, _, _, _, _, _, _, _, _, _, _, _, _] _
  refine run_ret ?_
  refine fin_ret1 rfl rfl ?_
  exact ⟨rfl, rfl⟩
set_option maxRecDepth 100000 in
set_option maxHeartbeats 4000000 in
theorem crash_nil (w0 : World) (v : Value) :
    Does Try.prog 20 #[.pointer none, v] w0 (fun r w' => r = .int .i64 2 ∧ w' = w0) := by
  refine does_of Try.func20 Try.ntmps20 rfl ?_
  change Run _ _ _ _ [.pointer none, v, undef, undef, undef, undef, undef, undef, undef, undef, undef, undef, undef, undef, undef, undef, undef, undef, undef, undef, undef, undef, undef, undef, undef, undef, undef, undef, undef, undef, undef, undef, undef, undef, undef, undef, undef, undef, undef, undef, undef, undef, undef, undef, undef, undef, undef, undef, undef, undef] _
  have H := Hp.refl w0
  refine run_seq ?_
  refine run_region ?_
  refine ops_val (ex_assign rfl) ?_
  refine ops_nil ?_
  change Run _ _ _ _ [_, _, _, _, _, _, _, _, _, _, _, _, _, _, _, _, _, _, _, _, _, _, _, _, _, _, _, _, _, _, _, _, _, _, _, _, _, _, _, _, _, _, _, _, _, _, _, _, _, _] _
  refine run_seq ?_
  refine run_seq ?_
  refine run_region ?_
  refine ops_val (ex_move rfl) ?_
  refine ops_true (ex_eql_nil_ptr Try.underlying24 rfl) (rfl) ?_
  refine ops_nil ?_
  change Run _ _ _ _ [_, _, _, _, _, _, _, _, _, _, _, _, _, _, _, _, _, _, _, _, _, _, _, _, _, _, _, _, _, _, _, _, _, _, _, _, _, _, _, _, _, _, _, _, _, _, _, _, _, _] _
  refine run_cond_true rfl ?_
  refine run_seq ?_
  refine run_region ?_
  refine ops_val (ex_assign rfl) ?_
  refine ops_nil ?_
  change Run _ _ _ _ [_, _, _, _, _, _, _, _, _, _, _, _, _, _, _, _, _, _, _, _, _, _, _, _, _, _, _, _, _, _, _, _, _, _, _, _, _, _, _, _, _, _, _, _, _, _, _, _, _, _] _
  refine run_ret ?_
  refine fin_ret1 rfl rfl ?_
  exact ⟨rfl, rfl⟩
set_option maxRecDepth 100000 in
set_option maxHeartbeats 4000000 in
theorem down_nil (w0 : World) :
    Does Try.prog 23 #[.pointer none] w0 (fun r w' => r = .bool false ∧ w' = w0) := by
  refine does_of Try.func23 Try.ntmps23 rfl ?_
  change Run _ _ _ _ [.pointer none, undef, undef, undef, undef, undef, undef, undef, undef, undef, undef] _
  have H := Hp.refl w0
  refine run_seq ?_
  refine run_region ?_
  refine ops_val (ex_assign rfl) ?_
  refine ops_nil ?_
  change Run _ _ _ _ [_, _, _, _, _, _, _, _, _, _, _] _
  refine run_seq ?_
  refine run_region ?_
  refine ops_val (ex_move rfl) ?_
  refine ops_false (ex_neq_nil_ptr Try.underlying24 rfl) (by simp) ?_
  refine ops_val (ex_move rfl) ?_
  change Ops _ _ _ _ _ _ [_, _, _, _, _, _, _, _, _, _, _] _
  refine ops_no rfl ?_
  refine ops_no rfl ?_
  change Ops _ _ _ _ _ _ [_, _, _, _, _, _, _, _, _, _, _] _
  refine ops_no rfl ?_
  refine ops_no rfl ?_
  refine ops_val (ex_pick_f rfl rfl) ?_
  refine ops_val (ex_assign rfl) ?_
  refine ops_nil ?_
  change Run _ _ _ _ [_, _, _, _, _, _, _, _, _, _, _] _
  refine run_ret ?_
  refine fin_ret1 rfl rfl ?_
  exact ⟨rfl, rfl⟩
set_option maxRecDepth 100000 in
set_option maxHeartbeats 4000000 in
theorem fork_nil (w0 : World) :
    Does Try.prog 24 #[.pointer none] w0 (fun r w' => r = .pointer none ∧ w' = w0) := by
  refine does_of Try.func24 Try.ntmps24 rfl ?_
  change Run _ _ _ _ [.pointer none, undef, undef, undef, undef, undef, undef, undef, undef, undef, undef, undef, undef, undef, undef, undef, undef, undef, undef, undef, undef, undef, undef, undef, undef] _
  have H := Hp.refl w0
  refine run_seq ?_
  refine run_region ?_
  refine ops_val (ex_assign rfl) ?_
  refine ops_nil ?_
  change Run _ _ _ _ [_, _, _, _, _, _, _, _, _, _, _, _, _, _, _, _, _, _, _, _, _, _, _, _, _] _
  refine run_seq ?_
  refine run_seq ?_
  refine run_region ?_
  refine ops_val (ex_move rfl) ?_
  refine ops_true (ex_eql_nil_ptr Try.underlying24 rfl) (rfl) ?_
  refine ops_nil ?_
  change Run _ _ _ _ [_, _, _, _, _, _, _, _, _, _, _, _, _, _, _, _, _, _, _, _, _, _, _, _, _] _
  refine run_cond_true rfl ?_
  refine run_seq ?_
  refine run_region ?_
  refine ops_val (ex_assign rfl) ?_
  refine ops_nil ?_
  change Run _ _ _ _ [_, _, _, _, _, _, _, _, _, _, _, _, _, _, _, _, _, _, _, _, _, _, _, _, _] _
  refine run_ret ?_
  refine fin_ret1 rfl rfl ?_
  exact ⟨rfl, rfl⟩
set_option maxRecDepth 100000 in
set_option maxHeartbeats 4000000 in
theorem size_any (gd gk : Nat) (gw : Option Nat) (cw : Nat) (sp : List Value) (D : Dk) (w0 : World) (H0 : Hp w0 w0 (bl (dRows gd gk gw cw sp D)) (dRows gd gk gw cw sp D)) (hD : DOk D gw cw sp) :
    Does Try.prog 12 #[.pointer (some ⟨gd, 0, none⟩)] w0 (fun r w' => r = .int .i64 (D.kept.length : Int) ∧ Hp w0 w' (bl (dRows gd gk gw cw sp D)) (dRows gd gk gw cw sp D)) := by
  refine does_of Try.func12 Try.ntmps12 rfl ?_
  change Run _ _ _ _ [.pointer (some ⟨gd, 0, none⟩), undef, undef, undef, undef, undef, undef, undef, undef, undef] _
  have H := H0
  obtain ⟨hpos, hmost, hk64, hw64, hwcap, hcap, hnil, harm⟩ := hD
  refine run_seq ?_
  refine run_region ?_
  refine ops_val (ex_assign rfl) ?_
  refine ops_nil ?_
  change Run _ _ _ _ [_, _, _, _, _, _, _, _, _, _] _
  refine run_seq ?_
  refine run_seq ?_
  refine run_region ?_
  refine ops_val (ex_move rfl) ?_
  refine ops_false (ex_eql_nil_ptr Try.underlying24 rfl) (by simp) ?_
  refine ops_nil ?_
  change Run _ _ _ _ [_, _, _, _, _, _, _, _, _, _] _
  refine run_cond_false rfl ?_
  refine run_skip ?_
  refine run_seq ?_
  refine run_region ?_
  refine ops_val (ex_move rfl) ?_
  refine ops_val (ex_nilCheck rfl) ?_
  refine ops_val (ex_fieldAddr fl57_0 rfl) ?_
  refine ops_val (ex_load ty54 rfl (H.cell (i := 0) rfl rfl)) ?_
  change Ops _ _ _ _ _ _ [_, _, _, _, _, _, _, _, _, _] _
  refine ops_val (ex_len_slice Try.underlying54 rfl) ?_
  refine ops_val (ex_assign rfl) ?_
  refine ops_nil ?_
  change Run _ _ _ _ [_, _, _, _, _, _, _, _, _, _] _
  refine run_ret ?_
  refine fin_ret1 rfl rfl ?_
  exact ⟨rfl, H⟩
set_option maxRecDepth 100000 in
set_option maxHeartbeats 4000000 in
theorem waiting_any (gd gk : Nat) (gw : Option Nat) (cw : Nat) (sp : List Value) (D : Dk) (w0 : World) (H0 : Hp w0 w0 (bl (dRows gd gk gw cw sp D)) (dRows gd gk gw cw sp D)) (hD : DOk D gw cw sp) :
    Does Try.prog 18 #[.pointer (some ⟨gd, 0, none⟩)] w0 (fun r w' => r = .int .i64 (D.wait.length : Int) ∧ Hp w0 w' (bl (dRows gd gk gw cw sp D)) (dRows gd gk gw cw sp D)) := by
  refine does_of Try.func18 Try.ntmps18 rfl ?_
  change Run _ _ _ _ [.pointer (some ⟨gd, 0, none⟩), undef, undef, undef, undef, undef, undef, undef, undef, undef] _
  have H := H0
  obtain ⟨hpos, hmost, hk64, hw64, hwcap, hcap, hnil, harm⟩ := hD
  refine run_seq ?_
  refine run_region ?_
  refine ops_val (ex_assign rfl) ?_
  refine ops_nil ?_
  change Run _ _ _ _ [_, _, _, _, _, _, _, _, _, _] _
  refine run_seq ?_
  refine run_seq ?_
  refine run_region ?_
  refine ops_val (ex_move rfl) ?_
  refine ops_false (ex_eql_nil_ptr Try.underlying24 rfl) (by simp) ?_
  refine ops_nil ?_
  change Run _ _ _ _ [_, _, _, _, _, _, _, _, _, _] _
  refine run_cond_false rfl ?_
  refine run_skip ?_
  refine run_seq ?_
  refine run_region ?_
  refine ops_val (ex_move rfl) ?_
  refine ops_val (ex_nilCheck rfl) ?_
  refine ops_val (ex_fieldAddr fl57_1 rfl) ?_
  refine ops_val (ex_load ty55 rfl (H.cell (i := 0) rfl rfl)) ?_
  change Ops _ _ _ _ _ _ [_, _, _, _, _, _, _, _, _, _] _
  refine ops_val (ex_len_slice Try.underlying55 rfl) ?_
  refine ops_val (ex_assign rfl) ?_
  refine ops_nil ?_
  change Run _ _ _ _ [_, _, _, _, _, _, _, _, _, _] _
  refine run_ret ?_
  refine fin_ret1 rfl rfl ?_
  exact ⟨rfl, H⟩
set_option maxRecDepth 100000 in
set_option maxHeartbeats 4000000 in
theorem down_any (gd gk : Nat) (gw : Option Nat) (cw : Nat) (sp : List Value) (D : Dk) (w0 : World) (H0 : Hp w0 w0 (bl (dRows gd gk gw cw sp D)) (dRows gd gk gw cw sp D)) (hD : DOk D gw cw sp) :
    Does Try.prog 23 #[.pointer (some ⟨gd, 0, none⟩)] w0 (fun r w' => r = .bool D.down ∧ Hp w0 w' (bl (dRows gd gk gw cw sp D)) (dRows gd gk gw cw sp D)) := by
  refine does_of Try.func23 Try.ntmps23 rfl ?_
  change Run _ _ _ _ [.pointer (some ⟨gd, 0, none⟩), undef, undef, undef, undef, undef, undef, undef, undef, undef, undef] _
  have H := H0
  obtain ⟨hpos, hmost, hk64, hw64, hwcap, hcap, hnil, harm⟩ := hD
  refine run_seq ?_
  refine run_region ?_
  refine ops_val (ex_assign rfl) ?_
  refine ops_nil ?_
  change Run _ _ _ _ [_, _, _, _, _, _, _, _, _, _, _] _
  refine run_seq ?_
  refine run_region ?_
  refine ops_val (ex_move rfl) ?_
  refine ops_true (ex_neq_nil_ptr Try.underlying24 rfl) (by simp) ?_
  refine ops_val (ex_move rfl) ?_
  change Ops _ _ _ _ _ _ [_, _, _, _, _, _, _, _, _, _, _] _
  refine ops_yes rfl ?_
  refine ops_val (ex_move rfl) ?_
  refine ops_yes rfl ?_
  refine ops_val (ex_nilCheck rfl) ?_
  change Ops _ _ _ _ _ _ [_, _, _, _, _, _, _, _, _, _, _] _
  refine ops_yes rfl ?_
  refine ops_val (ex_fieldAddr fl57_2 rfl) ?_
  refine ops_yes rfl ?_
  refine ops_val (ex_load ty4 rfl (H.cell (i := 0) rfl rfl)) ?_
  refine ops_val (ex_pick_t rfl rfl) ?_
  refine ops_val (ex_assign rfl) ?_
  refine ops_nil ?_
  change Run _ _ _ _ [_, _, _, _, _, _, _, _, _, _, _] _
  refine run_ret ?_
  refine fin_ret1 rfl rfl ?_
  exact ⟨rfl, H⟩
set_option maxRecDepth 100000 in
set_option maxHeartbeats 4000000 in
theorem hit_any (gd gk : Nat) (gw : Option Nat) (cw : Nat) (sp : List Value) (D : Dk) (w0 : World) (H0 : Hp w0 w0 (bl (dRows gd gk gw cw sp D)) (dRows gd gk gw cw sp D)) (hD : DOk D gw cw sp) :
    Does Try.prog 27 #[.pointer (some ⟨gd, 0, none⟩)] w0 (fun r w' => r = .bool D.hit.2 ∧ Hp w0 w' (bl (dRows gd gk gw cw sp D)) (dRows gd gk gw cw sp D.hit.1)) := by
  refine does_of Try.func27 Try.ntmps27 rfl ?_
  change Run _ _ _ _ [.pointer (some ⟨gd, 0, none⟩), undef, undef, undef, undef, undef, undef, undef, undef, undef, undef, undef, undef, undef, undef, undef, undef, undef, undef, undef] _
  have H := H0
  obtain ⟨hpos, hmost, hk64, hw64, hwcap, hcap, hnil, harm⟩ := hD
  refine run_seq ?_
  refine run_region ?_
  refine ops_val (ex_assign rfl) ?_
  refine ops_nil ?_
  change Run _ _ _ _ [_, _, _, _, _, _, _, _, _, _, _, _, _, _, _, _, _, _, _, _] _
  refine run_seq ?_
  refine run_seq ?_
  refine run_region ?_
  refine ops_val (ex_move rfl) ?_
  refine ops_val (ex_nilCheck rfl) ?_
  refine ops_val (ex_fieldAddr fl57_3 rfl) ?_
  refine ops_val (ex_load ty3 rfl (H.cell (i := 0) rfl rfl)) ?_
  change Ops _ _ _ _ _ _ [_, _, _, _, _, _, _, _, _, _, _, _, _, _, _, _, _, _, _, _] _
  refine ops_test (ex_lss rfl rfl) (fun hp7 => ?_) (fun hp7 => ?_)
  · have hh : D.hit = (D, false) := if_pos (by omega)
    refine ops_nil ?_
    change Run _ _ _ _ [_, _, _, _, _, _, _, _, _, _, _, _, _, _, _, _, _, _, _, _] _
    refine run_cond_true rfl ?_
    refine run_seq ?_
    refine run_region ?_
    refine ops_val (ex_assign rfl) ?_
    refine ops_nil ?_
    change Run _ _ _ _ [_, _, _, _, _, _, _, _, _, _, _, _, _, _, _, _, _, _, _, _] _
    refine run_ret ?_
    refine fin_ret1 rfl rfl ?_
    rw [hh]
    exact ⟨rfl, H⟩
  · have hh : D.hit = ({ D with armed := D.armed - 1 }, decide (D.armed - 1 = 0)) := if_neg (by omega)
    refine ops_nil ?_
    change Run _ _ _ _ [_, _, _, _, _, _, _, _, _, _, _, _, _, _, _, _, _, _, _, _] _
    refine run_cond_false rfl ?_
    refine run_skip ?_
    refine run_seq ?_
    refine run_region ?_
    refine ops_val (ex_move rfl) ?_
    refine ops_val (ex_nilCheck rfl) ?_
    refine ops_val (ex_fieldAddr fl57_3 rfl) ?_
    refine ops_val (ex_load ty3 rfl (H.cell (i := 0) rfl rfl)) ?_
    change Ops _ _ _ _ _ _ [_, _, _, _, _, _, _, _, _, _, _, _, _, _, _, _, _, _, _, _] _
    refine ops_val (ex_sub rfl rfl ((IntWalk.i64_in _ (by omega)).trans (show ((D.armed : Int) - 1) = ((D.armed - 1 : Nat) : Int) by omega))) ?_
    refine ops_val (ex_nilCheck rfl) ?_
    refine ops_val (ex_fieldAddr fl57_3 rfl) ?_
    refine ops_store1 ty3 H 0 rfl rfl rfl rfl (by first | decide | simp) rfl ?_
    intro w1 H1
    refine ops_nil ?_
    change Run _ _ _ _ [_, _, _, _, _, _, _, _, _, _, _, _, _, _, _, _, _, _, _, _] _
    refine run_seq ?_
    refine run_region ?_
    refine ops_val (ex_move rfl) ?_
    refine ops_val (ex_nilCheck rfl) ?_
    refine ops_val (ex_fieldAddr fl57_3 rfl) ?_
    refine ops_val (ex_load ty3 rfl (H1.cell (i := 0) rfl rfl)) ?_
    change Ops _ _ _ _ _ _ [_, _, _, _, _, _, _, _, _, _, _, _, _, _, _, _, _, _, _, _] _
    refine ops_val (ex_eql rfl rfl) ?_
    refine ops_val (ex_assign rfl) ?_
    refine ops_nil ?_
    change Run _ _ _ _ [_, _, _, _, _, _, _, _, _, _, _, _, _, _, _, _, _, _, _, _] _
    refine run_ret ?_
    refine fin_ret1 rfl rfl ?_
    rw [hh]
    exact ⟨congrArg Value.bool (decide_eq_decide.2 (by omega)), H1⟩
set_option maxRecDepth 100000 in
set_option maxHeartbeats 4000000 in
theorem block64_any (x : UInt8) (w0 : World) :
    Does Try.prog 14 #[.int .u8 (x.toNat : Int)] w0 (fun r w' => ∃ gb, r = .slice (hd (some gb)) 64 64 ∧ Hp w0 w' [] [(some gb, 5, u8s (blockOf x))]) := by
  refine does_of Try.func14 Try.ntmps14 rfl ?_
  change Run _ _ _ _ [.int .u8 (x.toNat : Int), undef, undef, undef, undef, undef, undef, undef, undef, undef, undef, undef, undef, undef, undef, undef, undef, undef, undef, undef] _
  have H := Hp.refl w0
  refine run_seq ?_
  refine run_region ?_
  refine ops_val (ex_assign rfl) ?_
  refine ops_nil ?_
  change Run _ _ _ _ [_, _, _, _, _, _, _, _, _, _, _, _, _, _, _, _, _, _, _, _] _
  refine run_seq ?_
  refine run_region ?_
  refine ops_make Try.underlying33 ty5 H rfl rfl (n := 64) (c := 64) (Nat.le_refl _) (by decide) (by decide) ?_
  intro w1 gb H1 hgb
  refine ops_val (ex_assign rfl) ?_
  refine ops_nil ?_
  change Run _ _ _ _ [_, _, _, _, _, _, _, _, _, _, _, _, _, _, _, _, _, _, _, _] _
  refine run_seq ?_
  refine run_seq ?_
  refine run_region ?_
  refine ops_val (ex_assign rfl) ?_
  refine ops_nil ?_
  change Run _ _ _ _ [_, _, _, _, _, _, _, _, _, _, _, _, _, _, _, _, _, _, _, _] _
  refine run_block ?_
  refine run_loop (fun n l w => ∃ (q : Nat) (y : Int), 64 - q = n ∧ Fits [some (.int .u8 (x.toNat : Int)), none, none, some (.slice (hd (some gb)) 64 64), some (.int .i64 y), none, none, none, none, none, none, none, none, none, none, none, none, none, none, none] l ∧ y = q ∧ q ≤ 64 ∧ Hp w0 w [] [(some gb, 5, u8s ((blockOf x).take q) ++ List.replicate (64 - q) (Value.int .u8 0))]) (64) ?_ ?_
  · exact ⟨0, _, rfl, (fs (fn (fn (fs (fs (fn (fn (fn (fn (fn (fn (fn (fn (fn (fn (fn (fn (fn (fn (fn f0)))))))))))))))))))), rfl, by omega, H1⟩
  · rintro n l w2 ⟨q, y, rfl, hfit, rfl, hq, H2⟩
    obtain ⟨j, rfl⟩ := hfit.open
    change Run _ _ _ _ [_, _, _, _, _, _, _, _, _, _, _, _, _, _, _, _, _, _, _, _] _
    clear hfit
    refine run_seq ?_
    refine run_seq ?_
    refine run_region ?_
    refine ops_val (ex_move rfl) ?_
    refine ops_val (ex_move rfl) ?_
    refine ops_val (ex_len_slice Try.underlying33 rfl) ?_
    refine ops_test (ex_lss rfl rfl) (fun hp9 => ?_) (fun hp9 => ?_)
    · have hql : q < 64 := by omega
      have hx := x.toNat_lt
      refine ops_nil ?_
      change Run _ _ _ _ [_, _, _, _, _, _, _, _, _, _, _, _, _, _, _, _, _, _, _, _] _
      refine run_cond_true rfl ?_
      refine run_skip ?_
      refine run_seq ?_
      refine run_block ?_
      refine run_region ?_
      refine ops_val (ex_move rfl) ?_
      refine ops_val (ex_move rfl) ?_
      refine ops_val (ex_move rfl) ?_
      refine ops_val (ex_move rfl) ?_
      change Ops _ _ _ _ _ _ [_, _, _, _, _, _, _, _, _, _, _, _, _, _, _, _, _, _, _, _] _
      refine ops_val (ex_conv Try.underlying5 Try.underlying3 rfl (u8w q)) ?_
      refine ops_val (ex_add rfl rfl (add8 x q)) ?_
      refine ops_val (ex_idx Try.underlying33 ty5 rfl rfl rfl hql (Nat.mul_one _)) ?_
      rw [addz]
      refine ops_store1 ty5 H2 0 rfl rfl rfl rfl (by rw [List.length_append, u8s_length, List.length_take, blockOf_length, List.length_replicate]; omega) rfl ?_
      intro w3 H3
      change Hp _ _ _ [_] at H3
      rw [blockOf_snoc x hql] at H3
      refine ops_nil ?_
      change Run _ _ _ _ [_, _, _, _, _, _, _, _, _, _, _, _, _, _, _, _, _, _, _, _] _
      refine run_nil (blk_normal ?_)
      refine run_region ?_
      refine ops_val (ex_move rfl) ?_
      refine ops_val (ex_add rfl rfl (IntWalk.i64_in _ (by omega))) ?_
      refine ops_val (ex_assign rfl) ?_
      refine ops_nil ?_
      change Run _ _ _ _ [_, _, _, _, _, _, _, _, _, _, _, _, _, _, _, _, _, _, _, _] _
      refine run_nil (rnd_normal ?_)
      exact ⟨64 - (q + 1), by omega, q + 1, _, rfl, (fs (fn (fn (fs (fs (fn (fn (fn (fn (fn (fn (fn (fn (fn (fn (fn (fn (fn (fn (fn f0)))))))))))))))))))), rfl, by omega, H3⟩
    · have hq64 : q = 64 := by omega
      subst hq64
      refine ops_nil ?_
      change Run _ _ _ _ [_, _, _, _, _, _, _, _, _, _, _, _, _, _, _, _, _, _, _, _] _
      refine run_cond_false rfl ?_
      refine run_exit ?_
      refine rnd_exit ?_
      refine blk_exit ?_
      refine run_seq ?_
      refine run_region ?_
      refine ops_val (ex_move rfl) ?_
      refine ops_val (ex_assign rfl) ?_
      refine ops_nil ?_
      change Run _ _ _ _ [_, _, _, _, _, _, _, _, _, _, _, _, _, _, _, _, _, _, _, _] _
      refine run_ret ?_
      refine fin_ret1 rfl rfl ?_
      have e1 : (blockOf x).take 64 = blockOf x := List.take_of_length_le (by rw [blockOf_length]; exact Nat.le_refl _)
      rw [e1] at H2
      exact ⟨gb, rfl, by have := H2; simpa using this⟩
theorem block_any (x : UInt8) (w0 : World) :
    Does Try.prog 14 #[.int .u8 (x.toNat : Int)] w0 (fun r w' => Own w0 w' r (blockOf x)) :=
  Does.mono (block64_any x w0) fun r w' ⟨gb, h1, h2⟩ => ⟨some gb, 64, [], by rw [h1, blockOf_length], by rw [blockOf_length]; exact Nat.le_refl _, by rw [List.append_nil, u8s_length, blockOf_length]; exact Nat.le_refl _, fun h => (by cases h), by rw [List.append_nil]; exact h2⟩
set_option maxRecDepth 100000 in
set_option maxHeartbeats 4000000 in
theorem newD_any (n : Nat) (w0 : World) (h1 : 1 ≤ n) (h2 : n ≤ 16384) :
    Does Try.prog 25 #[.int .i64 (n : Int)] w0 (fun r w' => ∃ gd gk, r = .tuple #[.pointer (some ⟨gd, 0, none⟩), .int .i64 0] ∧ Hp w0 w' [] (dRows gd gk none 0 [] ⟨List.replicate n zero64, [], false, 0, n, []⟩)) := by
  refine does_of Try.func25 Try.ntmps25 rfl ?_
  change Run _ _ _ _ [.int .i64 (n : Int), undef, undef, undef, undef, undef, undef, undef, undef, undef, undef, undef, undef, undef] _
  have H := Hp.refl w0
  refine run_seq ?_
  refine run_region ?_
  refine ops_val (ex_assign rfl) ?_
  refine ops_val (ex_assign rfl) ?_
  refine ops_nil ?_
  change Run _ _ _ _ [_, _, _, _, _, _, _, _, _, _, _, _, _, _] _
  refine run_seq ?_
  refine run_seq ?_
  refine run_region ?_
  refine ops_val (ex_move rfl) ?_
  refine ops_false (ex_lss rfl rfl) (by omega) ?_
  refine ops_val (ex_move rfl) ?_
  change Ops _ _ _ _ _ _ [_, _, _, _, _, _, _, _, _, _, _, _, _, _] _
  refine ops_yes rfl ?_
  refine ops_val (ex_move rfl) ?_
  refine ops_yes rfl ?_
  refine ops_false (ex_gtr rfl rfl) (by omega) ?_
  refine ops_val (ex_pick_f rfl rfl) ?_
  refine ops_nil ?_
  change Run _ _ _ _ [_, _, _, _, _, _, _, _, _, _, _, _, _, _] _
  refine run_cond_false rfl ?_
  refine run_skip ?_
  refine run_seq ?_
  refine run_region ?_
  refine ops_val (ex_move rfl) ?_
  refine ops_makeN Try.underlying54 ty59 H rfl rfl (n := n) (c := n) (Nat.le_refl _) (by omega) (by omega) ?_
  intro w1 gk H1 hgk
  refine ops_val (ex_build ty57 pl57 rfl rfl) ?_
  refine ops_box rfl rfl H1 ?_
  intro w2 gd H2 hgd
  change Ops _ _ _ _ _ _ [_, _, _, _, _, _, _, _, _, _, _, _, _, _] _
  refine ops_val (ex_assign rfl) ?_
  refine ops_val (ex_assign rfl) ?_
  refine ops_nil ?_
  change Run _ _ _ _ [_, _, _, _, _, _, _, _, _, _, _, _, _, _] _
  refine run_ret ?_
  refine fin_ret2 rfl rfl rfl ?_
  have e1 : kc (List.replicate n zero64) = initL (u8s zero64) n := kc_zero n
  refine ⟨gd, gk, rfl, ?_⟩
  have HH := (H2.pick [1, 0] (by decide)).nil 61
  simp only [dRows, List.length_replicate, List.append_nil]
  rw [e1]
  exact HH
theorem newOk {n : Nat} (h1 : 1 ≤ n) (h2 : n ≤ 16384) : DOk ⟨List.replicate n zero64, [], false, 0, n, []⟩ none 0 [] :=
  ⟨by simp; omega, by simpa using h2, fun b hb => by rw [(List.mem_replicate.1 hb).2]; rfl, fun p hp => (by cases hp), Nat.le_refl _, by simp, fun _ => rfl, by show 0 < 2 ^ 63; decide⟩
end Go.Proofs.Ytnlajgeehlpdaaa
