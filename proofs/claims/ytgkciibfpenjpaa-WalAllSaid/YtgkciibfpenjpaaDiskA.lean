/- Walks of layer 2, printed by wip/gen/codec.py. -/
import Derived.Test.YtgkciibfpenjpaaNrm
import Derived.Test.YtgkciibfpenjpaaDisk
namespace Go.Proofs.Ytgkciibfpenjpaa
open Go Go.RowKit
set_option linter.unusedVariables false
attribute [local irreducible] Still Ops Does Cd
theorem pl90 : placesOf Try.prog 90 = some [(0, 1), (1, 1), (2, 1), (3, 1)] := by kernel_rfl
theorem pl93 : placesOf Try.prog 93 = some [(0, 1), (1, 64)] := by kernel_rfl
set_option maxRecDepth 100000 in
set_option maxHeartbeats 4000000 in
theorem ready_any (gd gk : Nat) (gw : Option Nat) (cw : Nat) (sp : List Value) (D : Dk) (w0 : World) (H0 : Hp w0 w0 (bl (dRows gd gk gw cw sp D)) (dRows gd gk gw cw sp D)) (hD : DOk D gw cw sp) :
    Does Try.prog 59 #[.pointer (some ⟨gd, 0, none⟩)] w0 (fun r w' => r = .int .i64 (if D.down = true then 40 else 0 : Int) ∧ Hp w0 w' (bl (dRows gd gk gw cw sp D)) (dRows gd gk gw cw sp D)) := by
  refine does_of Try.func59 Try.ntmps59 rfl ?_
  change Run _ _ _ _ [.pointer (some ⟨gd, 0, none⟩), undef, undef, undef, undef, undef, undef, undef, undef, undef, undef] _
  have H := H0
  obtain ⟨hpos, hmost, hk64, hw64, hwcap, hcap, hnil, harm⟩ := hD
  refine run_seq ?_
  refine run_region ?_
  refine ops_val (ex_assign rfl) ?_
  refine ops_nil ?_
  change Run _ _ _ _ [_, _, _, _, _, _, _, _, _, _, _] _
  refine run_seq ?_
  refine run_block ?_
  refine run_seq ?_
  refine run_region ?_
  refine ops_val (ex_move rfl) ?_
  refine ops_false (ex_eql_nil_ptr Try.underlying27 rfl) (by simp) ?_
  refine ops_val (ex_assign rfl) ?_
  refine ops_nil ?_
  change Run _ _ _ _ [_, _, _, _, _, _, _, _, _, _, _] _
  refine run_cond_false rfl ?_
  refine run_seq ?_
  refine run_region ?_
  refine ops_val (ex_move rfl) ?_
  refine ops_val (ex_nilCheck rfl) ?_
  refine ops_val (ex_fieldAddr fl90_2 rfl) ?_
  refine ops_val (ex_load ty4 rfl (H.cell (i := 0) rfl rfl)) ?_
  change Ops _ _ _ _ _ _ [_, _, _, _, _, _, _, _, _, _, _] _
  refine ops_val (ex_assign rfl) ?_
  refine ops_nil ?_
  change Run _ _ _ _ [_, _, _, _, _, _, _, _, _, _, _] _
  refine run_cond rfl (fun hb6 => ?_) (fun hb6 => ?_)
  · rw [if_pos hb6]
    refine run_seq ?_
    refine run_region ?_
    refine ops_val (ex_assign rfl) ?_
    refine ops_nil ?_
    change Run _ _ _ _ [_, _, _, _, _, _, _, _, _, _, _] _
    refine run_ret ?_
    refine blk_ret ?_
    refine fin_ret1 rfl rfl ?_
    exact ⟨rfl, H⟩
  · rw [if_neg (by rw [hb6]; decide)]
    refine run_skip ?_
    refine run_nil (blk_normal ?_)
    refine run_seq ?_
    refine run_region ?_
    refine ops_val (ex_assign rfl) ?_
    refine ops_nil ?_
    change Run _ _ _ _ [_, _, _, _, _, _, _, _, _, _, _] _
    refine run_ret ?_
    refine fin_ret1 rfl rfl ?_
    exact ⟨rfl, H⟩
set_option maxRecDepth 100000 in
set_option maxHeartbeats 4000000 in
theorem ready_nil (w0 : World) :
    Does Try.prog 59 #[.pointer none] w0 (fun r w' => r = .int .i64 2 ∧ w' = w0) := by
  refine does_of Try.func59 Try.ntmps59 rfl ?_
  change Run _ _ _ _ [.pointer none, undef, undef, undef, undef, undef, undef, undef, undef, undef, undef] _
  have H := Hp.refl w0
  refine run_seq ?_
  refine run_region ?_
  refine ops_val (ex_assign rfl) ?_
  refine ops_nil ?_
  change Run _ _ _ _ [_, _, _, _, _, _, _, _, _, _, _] _
  refine run_seq ?_
  refine run_block ?_
  refine run_seq ?_
  refine run_region ?_
  refine ops_val (ex_move rfl) ?_
  refine ops_true (ex_eql_nil_ptr Try.underlying27 rfl) (rfl) ?_
  refine ops_val (ex_assign rfl) ?_
  refine ops_nil ?_
  change Run _ _ _ _ [_, _, _, _, _, _, _, _, _, _, _] _
  refine run_cond_true rfl ?_
  refine run_seq ?_
  refine run_region ?_
  refine ops_val (ex_assign rfl) ?_
  refine ops_nil ?_
  change Run _ _ _ _ [_, _, _, _, _, _, _, _, _, _, _] _
  refine run_ret ?_
  refine blk_ret ?_
  refine fin_ret1 rfl rfl ?_
  exact ⟨rfl, rfl⟩
set_option maxRecDepth 100000 in
set_option maxHeartbeats 4000000 in
theorem arm_nil (w0 : World) (n : Int) :
    Does Try.prog 26 #[.pointer none, .int .i64 n] w0 (fun r w' => r = .int .i64 2 ∧ w' = w0) := by
  refine does_of Try.func26 Try.ntmps26 rfl ?_
  refine nR16 ?_
  have H := Hp.refl w0
  refine run_seq ?_
  refine run_region ?_
  refine ops_val (ex_assign rfl) ?_
  refine ops_nil ?_
  refine nR16 ?_
  refine run_seq ?_
  refine run_seq ?_
  refine run_region ?_
  refine ops_val (ex_move rfl) ?_
  refine ops_call_eq (ex_call gf59 rfl) (ready_nil _) ?_
  refine ops_val (ex_assign rfl) ?_
  refine ops_nil ?_
  refine nR16 ?_
  refine run_seq ?_
  refine run_region ?_
  refine ops_val (ex_move rfl) ?_
  refine ops_true (ex_neq rfl rfl) (by decide) ?_
  refine ops_nil ?_
  refine nR16 ?_
  refine run_cond_true rfl ?_
  refine run_seq ?_
  refine run_region ?_
  refine ops_val (ex_move rfl) ?_
  refine ops_val (ex_assign rfl) ?_
  refine ops_nil ?_
  refine nR16 ?_
  refine run_ret ?_
  refine fin_ret1 rfl rfl ?_
  exact ⟨rfl, rfl⟩
set_option maxRecDepth 100000 in
set_option maxHeartbeats 4000000 in
theorem size_nil (w0 : World) :
    Does Try.prog 32 #[.pointer none] w0 (fun r w' => r = .int .i64 0 ∧ w' = w0) := by
  refine does_of Try.func32 Try.ntmps32 rfl ?_
  change Run _ _ _ _ [.pointer none, undef, undef, undef, undef, undef, undef, undef, undef, undef] _
  have H := Hp.refl w0
  refine run_seq ?_
  refine run_region ?_
  refine ops_val (ex_assign rfl) ?_
  refine ops_nil ?_
  change Run _ _ _ _ [_, _, _, _, _, _, _, _, _, _] _
  refine run_seq ?_
  refine run_seq ?_
  refine run_region ?_
  refine ops_val (ex_move rfl) ?_
  refine ops_true (ex_eql_nil_ptr Try.underlying27 rfl) (rfl) ?_
  refine ops_nil ?_
  change Run _ _ _ _ [_, _, _, _, _, _, _, _, _, _] _
  refine run_cond_true rfl ?_
  refine run_seq ?_
  refine run_region ?_
  refine ops_val (ex_assign rfl) ?_
  refine ops_nil ?_
  change Run _ _ _ _ [_, _, _, _, _, _, _, _, _, _] _
  refine run_ret ?_
  refine fin_ret1 rfl rfl ?_
  exact ⟨rfl, rfl⟩
set_option maxRecDepth 100000 in
set_option maxHeartbeats 4000000 in
theorem start_nil (w0 : World) :
    Does Try.prog 28 #[.pointer none] w0 (fun r w' => r = .int .i64 2 ∧ w' = w0) := by
  refine does_of Try.func28 Try.ntmps28 rfl ?_
  refine nR18 ?_
  have H := Hp.refl w0
  refine run_seq ?_
  refine run_region ?_
  refine ops_val (ex_assign rfl) ?_
  refine ops_nil ?_
  refine nR18 ?_
  refine run_seq ?_
  refine run_seq ?_
  refine run_region ?_
  refine ops_val (ex_move rfl) ?_
  refine ops_true (ex_eql_nil_ptr Try.underlying27 rfl) (rfl) ?_
  refine ops_nil ?_
  refine nR18 ?_
  refine run_cond_true rfl ?_
  refine run_seq ?_
  refine run_region ?_
  refine ops_val (ex_assign rfl) ?_
  refine ops_nil ?_
  refine nR18 ?_
  refine run_ret ?_
  refine fin_ret1 rfl rfl ?_
  exact ⟨rfl, rfl⟩
set_option maxRecDepth 100000 in
set_option maxHeartbeats 4000000 in
theorem write_nil (w0 : World) (n : Int) (v : Value) :
    Does Try.prog 37 #[.pointer none, .int .i64 n, v] w0 (fun r w' => r = .int .i64 2 ∧ w' = w0) := by
  refine does_of Try.func37 Try.ntmps37 rfl ?_
  refine nR46 ?_
  have H := Hp.refl w0
  refine run_seq ?_
  refine run_region ?_
  refine ops_val (ex_assign rfl) ?_
  refine ops_nil ?_
  refine nR46 ?_
  refine run_seq ?_
  refine run_seq ?_
  refine run_region ?_
  refine ops_val (ex_move rfl) ?_
  refine ops_call_eq (ex_call gf59 rfl) (ready_nil _) ?_
  refine ops_val (ex_assign rfl) ?_
  refine ops_nil ?_
  refine nR46 ?_
  refine run_seq ?_
  refine run_region ?_
  refine ops_val (ex_move rfl) ?_
  refine ops_true (ex_neq rfl rfl) (by decide) ?_
  refine ops_nil ?_
  refine nR46 ?_
  refine run_cond_true rfl ?_
  refine run_seq ?_
  refine run_region ?_
  refine ops_val (ex_move rfl) ?_
  refine ops_val (ex_assign rfl) ?_
  refine ops_nil ?_
  refine nR46 ?_
  refine run_ret ?_
  refine fin_ret1 rfl rfl ?_
  exact ⟨rfl, rfl⟩
set_option maxRecDepth 100000 in
set_option maxHeartbeats 4000000 in
theorem read_nil (w0 : World) (n : Int) :
    Does Try.prog 50 #[.pointer none, .int .i64 n] w0 (fun r w' => r = .tuple #[.slice none 0 0, .int .i64 2] ∧ w' = w0) := by
  refine does_of Try.func50 Try.ntmps50 rfl ?_
  refine nR62 ?_
  have H := Hp.refl w0
  refine run_seq ?_
  refine run_region ?_
  refine ops_val (ex_assign rfl) ?_
  refine ops_val (ex_assign rfl) ?_
  refine ops_nil ?_
  refine nR62 ?_
  refine run_seq ?_
  refine run_seq ?_
  refine run_region ?_
  refine ops_val (ex_move rfl) ?_
  refine ops_call_eq (ex_call gf59 rfl) (ready_nil _) ?_
  refine ops_val (ex_assign rfl) ?_
  refine ops_nil ?_
  refine nR62 ?_
  refine run_seq ?_
  refine run_region ?_
  refine ops_val (ex_move rfl) ?_
  refine ops_true (ex_neq rfl rfl) (by decide) ?_
  refine ops_nil ?_
  refine nR62 ?_
  refine run_cond_true rfl ?_
  refine run_seq ?_
  refine run_region ?_
  refine ops_val (ex_move rfl) ?_
  refine ops_val (ex_assign rfl) ?_
  refine ops_val (ex_assign rfl) ?_
  refine ops_nil ?_
  refine nR62 ?_
  refine run_ret ?_
  refine fin_ret2 rfl rfl rfl ?_
  exact ⟨rfl, rfl⟩
set_option maxRecDepth 100000 in
set_option maxHeartbeats 4000000 in
theorem sync_nil (w0 : World) :
    Does Try.prog 43 #[.pointer none] w0 (fun r w' => r = .int .i64 2 ∧ w' = w0) := by
  refine does_of Try.func43 Try.ntmps43 rfl ?_
  refine nR38 ?_
  have H := Hp.refl w0
  refine run_seq ?_
  refine run_region ?_
  refine ops_val (ex_assign rfl) ?_
  refine ops_nil ?_
  refine nR38 ?_
  refine run_seq ?_
  refine run_seq ?_
  refine run_region ?_
  refine ops_val (ex_move rfl) ?_
  refine ops_call_eq (ex_call gf59 rfl) (ready_nil _) ?_
  refine ops_val (ex_assign rfl) ?_
  refine ops_nil ?_
  refine nR38 ?_
  refine run_seq ?_
  refine run_region ?_
  refine ops_val (ex_move rfl) ?_
  refine ops_true (ex_neq rfl rfl) (by decide) ?_
  refine ops_nil ?_
  refine nR38 ?_
  refine run_cond_true rfl ?_
  refine run_seq ?_
  refine run_region ?_
  refine ops_val (ex_move rfl) ?_
  refine ops_val (ex_assign rfl) ?_
  refine ops_nil ?_
  refine nR38 ?_
  refine run_ret ?_
  refine fin_ret1 rfl rfl ?_
  exact ⟨rfl, rfl⟩
set_option maxRecDepth 100000 in
set_option maxHeartbeats 4000000 in
theorem crash_nil (w0 : World) (v : Value) :
    Does Try.prog 25 #[.pointer none, v] w0 (fun r w' => r = .int .i64 2 ∧ w' = w0) := by
  refine does_of Try.func25 Try.ntmps25 rfl ?_
  refine nR50 ?_
  have H := Hp.refl w0
  refine run_seq ?_
  refine run_region ?_
  refine ops_val (ex_assign rfl) ?_
  refine ops_nil ?_
  refine nR50 ?_
  refine run_seq ?_
  refine run_seq ?_
  refine run_region ?_
  refine ops_val (ex_move rfl) ?_
  refine ops_true (ex_eql_nil_ptr Try.underlying27 rfl) (rfl) ?_
  refine ops_nil ?_
  refine nR50 ?_
  refine run_cond_true rfl ?_
  refine run_seq ?_
  refine run_region ?_
  refine ops_val (ex_assign rfl) ?_
  refine ops_nil ?_
  refine nR50 ?_
  refine run_ret ?_
  refine fin_ret1 rfl rfl ?_
  exact ⟨rfl, rfl⟩
set_option maxRecDepth 100000 in
set_option maxHeartbeats 4000000 in
theorem down_nil (w0 : World) :
    Does Try.prog 27 #[.pointer none] w0 (fun r w' => r = .bool false ∧ w' = w0) := by
  refine does_of Try.func27 Try.ntmps27 rfl ?_
  change Run _ _ _ _ [.pointer none, undef, undef, undef, undef, undef, undef, undef, undef, undef, undef] _
  have H := Hp.refl w0
  refine run_seq ?_
  refine run_region ?_
  refine ops_val (ex_assign rfl) ?_
  refine ops_nil ?_
  change Run _ _ _ _ [_, _, _, _, _, _, _, _, _, _, _] _
  refine run_seq ?_
  refine run_region ?_
  refine ops_val (ex_move rfl) ?_
  refine ops_false (ex_neq_nil_ptr Try.underlying27 rfl) (by simp) ?_
  refine ops_val (ex_move rfl) ?_
  change Ops _ _ _ _ _ _ [_, _, _, _, _, _, _, _, _, _, _] _
  refine ops_no rfl ?_
  refine ops_no rfl ?_
  change Ops _ _ _ _ _ _ [_, _, _, _, _, _, _, _, _, _, _] _
  refine ops_no rfl ?_
  refine ops_no rfl ?_
  refine ops_val (ex_pick_f rfl rfl) ?_
  refine ops_val (ex_assign rfl) ?_
  refine ops_nil ?_
  change Run _ _ _ _ [_, _, _, _, _, _, _, _, _, _, _] _
  refine run_ret ?_
  refine fin_ret1 rfl rfl ?_
  exact ⟨rfl, rfl⟩
set_option maxRecDepth 100000 in
set_option maxHeartbeats 4000000 in
theorem fork_nil (w0 : World) :
    Does Try.prog 22 #[.pointer none] w0 (fun r w' => r = .pointer none ∧ w' = w0) := by
  refine does_of Try.func22 Try.ntmps22 rfl ?_
  refine nR25 ?_
  have H := Hp.refl w0
  refine run_seq ?_
  refine run_region ?_
  refine ops_val (ex_assign rfl) ?_
  refine ops_nil ?_
  refine nR25 ?_
  refine run_seq ?_
  refine run_seq ?_
  refine run_region ?_
  refine ops_val (ex_move rfl) ?_
  refine ops_true (ex_eql_nil_ptr Try.underlying27 rfl) (rfl) ?_
  refine ops_nil ?_
  refine nR25 ?_
  refine run_cond_true rfl ?_
  refine run_seq ?_
  refine run_region ?_
  refine ops_val (ex_assign rfl) ?_
  refine ops_nil ?_
  refine nR25 ?_
  refine run_ret ?_
  refine fin_ret1 rfl rfl ?_
  exact ⟨rfl, rfl⟩
set_option maxRecDepth 100000 in
set_option maxHeartbeats 4000000 in
theorem size_any (gd gk : Nat) (gw : Option Nat) (cw : Nat) (sp : List Value) (D : Dk) (w0 : World) (H0 : Hp w0 w0 (bl (dRows gd gk gw cw sp D)) (dRows gd gk gw cw sp D)) (hD : DOk D gw cw sp) :
    Does Try.prog 32 #[.pointer (some ⟨gd, 0, none⟩)] w0 (fun r w' => r = .int .i64 (D.kept.length : Int) ∧ Hp w0 w' (bl (dRows gd gk gw cw sp D)) (dRows gd gk gw cw sp D)) := by
  refine does_of Try.func32 Try.ntmps32 rfl ?_
  change Run _ _ _ _ [.pointer (some ⟨gd, 0, none⟩), undef, undef, undef, undef, undef, undef, undef, undef, undef] _
  have H := H0
  obtain ⟨hpos, hmost, hk64, hw64, hwcap, hcap, hnil, harm⟩ := hD
  refine run_seq ?_
  refine run_region ?_
  refine ops_val (ex_assign rfl) ?_
  refine ops_nil ?_
  change Run _ _ _ _ [_, _, _, _, _, _, _, _, _, _] _
  refine run_seq ?_
  refine run_seq ?_
  refine run_region ?_
  refine ops_val (ex_move rfl) ?_
  refine ops_false (ex_eql_nil_ptr Try.underlying27 rfl) (by simp) ?_
  refine ops_nil ?_
  change Run _ _ _ _ [_, _, _, _, _, _, _, _, _, _] _
  refine run_cond_false rfl ?_
  refine run_skip ?_
  refine run_seq ?_
  refine run_region ?_
  refine ops_val (ex_move rfl) ?_
  refine ops_val (ex_nilCheck rfl) ?_
  refine ops_val (ex_fieldAddr fl90_0 rfl) ?_
  refine ops_val (ex_load ty84 rfl (H.cell (i := 0) rfl rfl)) ?_
  change Ops _ _ _ _ _ _ [_, _, _, _, _, _, _, _, _, _] _
  refine ops_val (ex_len_slice Try.underlying84 rfl) ?_
  refine ops_val (ex_assign rfl) ?_
  refine ops_nil ?_
  change Run _ _ _ _ [_, _, _, _, _, _, _, _, _, _] _
  refine run_ret ?_
  refine fin_ret1 rfl rfl ?_
  exact ⟨rfl, H⟩
set_option maxRecDepth 100000 in
set_option maxHeartbeats 4000000 in
theorem down_any (gd gk : Nat) (gw : Option Nat) (cw : Nat) (sp : List Value) (D : Dk) (w0 : World) (H0 : Hp w0 w0 (bl (dRows gd gk gw cw sp D)) (dRows gd gk gw cw sp D)) (hD : DOk D gw cw sp) :
    Does Try.prog 27 #[.pointer (some ⟨gd, 0, none⟩)] w0 (fun r w' => r = .bool D.down ∧ Hp w0 w' (bl (dRows gd gk gw cw sp D)) (dRows gd gk gw cw sp D)) := by
  refine does_of Try.func27 Try.ntmps27 rfl ?_
  change Run _ _ _ _ [.pointer (some ⟨gd, 0, none⟩), undef, undef, undef, undef, undef, undef, undef, undef, undef, undef] _
  have H := H0
  obtain ⟨hpos, hmost, hk64, hw64, hwcap, hcap, hnil, harm⟩ := hD
  refine run_seq ?_
  refine run_region ?_
  refine ops_val (ex_assign rfl) ?_
  refine ops_nil ?_
  change Run _ _ _ _ [_, _, _, _, _, _, _, _, _, _, _] _
  refine run_seq ?_
  refine run_region ?_
  refine ops_val (ex_move rfl) ?_
  refine ops_true (ex_neq_nil_ptr Try.underlying27 rfl) (by simp) ?_
  refine ops_val (ex_move rfl) ?_
  change Ops _ _ _ _ _ _ [_, _, _, _, _, _, _, _, _, _, _] _
  refine ops_yes rfl ?_
  refine ops_val (ex_move rfl) ?_
  refine ops_yes rfl ?_
  refine ops_val (ex_nilCheck rfl) ?_
  change Ops _ _ _ _ _ _ [_, _, _, _, _, _, _, _, _, _, _] _
  refine ops_yes rfl ?_
  refine ops_val (ex_fieldAddr fl90_2 rfl) ?_
  refine ops_yes rfl ?_
  refine ops_val (ex_load ty4 rfl (H.cell (i := 0) rfl rfl)) ?_
  refine ops_val (ex_pick_t rfl rfl) ?_
  refine ops_val (ex_assign rfl) ?_
  refine ops_nil ?_
  change Run _ _ _ _ [_, _, _, _, _, _, _, _, _, _, _] _
  refine run_ret ?_
  refine fin_ret1 rfl rfl ?_
  exact ⟨rfl, H⟩
set_option maxRecDepth 100000 in
set_option maxHeartbeats 4000000 in
theorem hit_any (gd gk : Nat) (gw : Option Nat) (cw : Nat) (sp : List Value) (D : Dk) (w0 : World) (H0 : Hp w0 w0 (bl (dRows gd gk gw cw sp D)) (dRows gd gk gw cw sp D)) (hD : DOk D gw cw sp) :
    Does Try.prog 62 #[.pointer (some ⟨gd, 0, none⟩)] w0 (fun r w' => r = .bool D.hit.2 ∧ Hp w0 w' (bl (dRows gd gk gw cw sp D)) (dRows gd gk gw cw sp D.hit.1)) := by
  refine does_of Try.func62 Try.ntmps62 rfl ?_
  refine nR20 ?_
  have H := H0
  obtain ⟨hpos, hmost, hk64, hw64, hwcap, hcap, hnil, harm⟩ := hD
  refine run_seq ?_
  refine run_region ?_
  refine ops_val (ex_assign rfl) ?_
  refine ops_nil ?_
  refine nR20 ?_
  refine run_seq ?_
  refine run_seq ?_
  refine run_region ?_
  refine ops_val (ex_move rfl) ?_
  refine ops_val (ex_nilCheck rfl) ?_
  refine ops_val (ex_fieldAddr fl90_3 rfl) ?_
  refine ops_val (ex_load ty3 rfl (H.cell (i := 0) rfl rfl)) ?_
  refine nO20 ?_
  refine ops_test (ex_lss rfl rfl) (fun hp7 => ?_) (fun hp7 => ?_)
  · have hh : D.hit = (D, false) := if_pos (by omega)
    refine ops_nil ?_
    refine nR20 ?_
    refine run_cond_true rfl ?_
    refine run_seq ?_
    refine run_region ?_
    refine ops_val (ex_assign rfl) ?_
    refine ops_nil ?_
    refine nR20 ?_
    refine run_ret ?_
    refine fin_ret1 rfl rfl ?_
    rw [hh]
    exact ⟨rfl, H⟩
  · have hh : D.hit = ({ D with armed := D.armed - 1 }, decide (D.armed - 1 = 0)) := if_neg (by omega)
    refine ops_nil ?_
    refine nR20 ?_
    refine run_cond_false rfl ?_
    refine run_skip ?_
    refine run_seq ?_
    refine run_region ?_
    refine ops_val (ex_move rfl) ?_
    refine ops_val (ex_nilCheck rfl) ?_
    refine ops_val (ex_fieldAddr fl90_3 rfl) ?_
    refine ops_val (ex_load ty3 rfl (H.cell (i := 0) rfl rfl)) ?_
    refine nO20 ?_
    refine ops_val (ex_sub rfl rfl ((IntWalk.i64_in _ (by omega)).trans (show ((D.armed : Int) - 1) = ((D.armed - 1 : Nat) : Int) by omega))) ?_
    refine ops_val (ex_nilCheck rfl) ?_
    refine ops_val (ex_fieldAddr fl90_3 rfl) ?_
    refine ops_store1 ty3 H 0 rfl rfl rfl rfl (by first | decide | simp) rfl ?_
    intro w1 H1
    refine ops_nil ?_
    refine nR20 ?_
    refine run_seq ?_
    refine run_region ?_
    refine ops_val (ex_move rfl) ?_
    refine ops_val (ex_nilCheck rfl) ?_
    refine ops_val (ex_fieldAddr fl90_3 rfl) ?_
    refine ops_val (ex_load ty3 rfl (H1.cell (i := 0) rfl rfl)) ?_
    refine nO20 ?_
    refine ops_val (ex_eql rfl rfl) ?_
    refine ops_val (ex_assign rfl) ?_
    refine ops_nil ?_
    refine nR20 ?_
    refine run_ret ?_
    refine fin_ret1 rfl rfl ?_
    rw [hh]
    exact ⟨congrArg Value.bool (decide_eq_decide.2 (by omega)), H1⟩
set_option maxRecDepth 100000 in
set_option maxHeartbeats 4000000 in
theorem newD_any (n : Nat) (w0 : World) (h1 : 1 ≤ n) (h2 : n ≤ 16384) :
    Does Try.prog 24 #[.int .i64 (n : Int)] w0 (fun r w' => ∃ gd gk, r = .tuple #[.pointer (some ⟨gd, 0, none⟩), .int .i64 0] ∧ Hp w0 w' [] (dRows gd gk none 0 [] ⟨List.replicate n zero64, [], false, 0, n, []⟩)) := by
  refine does_of Try.func24 Try.ntmps24 rfl ?_
  refine nR14 ?_
  have H := Hp.refl w0
  refine run_seq ?_
  refine run_region ?_
  refine ops_val (ex_assign rfl) ?_
  refine ops_val (ex_assign rfl) ?_
  refine ops_nil ?_
  refine nR14 ?_
  refine run_seq ?_
  refine run_seq ?_
  refine run_region ?_
  refine ops_val (ex_move rfl) ?_
  refine ops_false (ex_lss rfl rfl) (by omega) ?_
  refine ops_val (ex_move rfl) ?_
  refine nO14 ?_
  refine ops_yes rfl ?_
  refine ops_val (ex_move rfl) ?_
  refine ops_yes rfl ?_
  refine ops_false (ex_gtr rfl rfl) (by omega) ?_
  refine ops_val (ex_pick_f rfl rfl) ?_
  refine ops_nil ?_
  refine nR14 ?_
  refine run_cond_false rfl ?_
  refine run_skip ?_
  refine run_seq ?_
  refine run_region ?_
  refine ops_val (ex_move rfl) ?_
  refine ops_makeN Try.underlying84 ty87 H rfl rfl (n := n) (c := n) (Nat.le_refl _) (by omega) (by omega) ?_
  intro w1 gk H1 hgk
  refine ops_val (ex_build ty90 pl90 rfl rfl) ?_
  refine ops_box rfl rfl H1 ?_
  intro w2 gd H2 hgd
  refine nO14 ?_
  refine ops_val (ex_assign rfl) ?_
  refine ops_val (ex_assign rfl) ?_
  refine ops_nil ?_
  refine nR14 ?_
  refine run_ret ?_
  refine fin_ret2 rfl rfl rfl ?_
  have e1 : kc (List.replicate n zero64) = initL (u8s zero64) n := kc_zero n
  refine ⟨gd, gk, rfl, ?_⟩
  have HH := (H2.pick [1, 0] (by decide)).nil 93
  simp only [dRows, List.length_replicate, List.append_nil]
  rw [e1]
  exact HH
theorem newOk {n : Nat} (h1 : 1 ≤ n) (h2 : n ≤ 16384) : DOk ⟨List.replicate n zero64, [], false, 0, n, []⟩ none 0 [] :=
  ⟨by simp; omega, by simpa using h2, fun b hb => by rw [(List.mem_replicate.1 hb).2]; rfl, fun p hp => (by cases hp), Nat.le_refl _, by simp, fun _ => rfl, by show 0 < 2 ^ 63; decide⟩
end Go.Proofs.Ytgkciibfpenjpaa
