/- Walks of layer 2, printed by wip/gen/codec.py. -/
import Derived.Test.YtbninklfoogmdaaGreatNrm
import Derived.Test.YtbninklfoogmdaaGreatVk
import Derived.Test.YtbninklfoogmdaaGreatCodecA
import Derived.Test.YtbninklfoogmdaaGreatMit
namespace Go.Proofs.YtbninklfoogmdaaGreat
open Go Go.RowKit
set_option linter.unusedVariables false
attribute [local irreducible] Still Ops Does Cd
theorem pl36 : placesOf Tryz.prog 36 = some [(0, 1), (1, 1)] := by kernel_rfl
theorem pl39 : placesOf Tryz.prog 39 = some [(0, 1), (1, 2), (3, 1)] := by kernel_rfl
theorem pl41 : placesOf Tryz.prog 41 = some [(0, 1), (1, 1)] := by kernel_rfl
theorem pl43 : placesOf Tryz.prog 43 = some [(0, 1), (1, 1), (2, 1), (3, 1)] := by kernel_rfl
theorem pl63 : placesOf Tryz.prog 63 = some [(0, 1), (1, 1), (2, 1), (3, 4)] := by kernel_rfl
theorem pl61 : placesOf Tryz.prog 61 = some [(0, 1), (1, 1), (2, 1), (3, 1)] := by kernel_rfl
theorem pl57 : placesOf Tryz.prog 57 = some [(0, 2), (2, 1), (3, 1), (4, 1), (5, 1)] := by kernel_rfl
theorem pl27 : placesOf Tryz.prog 27 = some [(0, 1), (1, 1), (2, 1)] := by kernel_rfl
theorem pl45 : placesOf Tryz.prog 45 = some [(0, 1), (1, 1), (2, 2), (4, 4), (8, 2), (10, 4), (14, 1), (15, 1)] := by kernel_rfl
theorem pl141 : placesOf Tryz.prog 141 = some [(0, 2), (2, 1), (3, 1)] := by kernel_rfl
theorem pl111 : placesOf Tryz.prog 111 = some [(0, 2), (2, 1), (3, 1)] := by kernel_rfl
set_option maxRecDepth 100000 in
set_option maxHeartbeats 4000000 in
theorem known_b (n : Int) (w0 : World) :
    Does Tryz.prog 106 #[.int .i64 n] w0 (fun r w' => r = .bool (decide (1 ≤ n ∧ n ≤ 5)) ∧ Hp w0 w' [] []) := by
  refine does_of Tryz.func106 Tryz.ntmps106 rfl ?_
  change Run _ _ _ _ [.int .i64 n, undef, undef, undef, undef, undef, undef, undef, undef] _
  have H := Hp.refl w0
  refine run_seq ?_
  refine run_region ?_
  refine ops_val (ex_assign rfl) ?_
  refine ops_nil ?_
  change Run _ _ _ _ [_, _, _, _, _, _, _, _, _] _
  refine run_seq ?_
  refine run_region ?_
  refine ops_val (ex_move rfl) ?_
  refine ops_test (ex_geq rfl rfl) (fun hp4 => ?_) (fun hp4 => ?_)
  · skip
    refine ops_val (ex_move rfl) ?_
    change Ops _ _ _ _ _ _ [_, _, _, _, _, _, _, _, _] _
    refine ops_yes rfl ?_
    refine ops_val (ex_move rfl) ?_
    refine ops_yes rfl ?_
    refine ops_test (ex_leq rfl rfl) (fun hp7 => ?_) (fun hp7 => ?_)
    · skip
      refine ops_val (ex_pick_t rfl rfl) ?_
      refine ops_val (ex_assign rfl) ?_
      refine ops_nil ?_
      change Run _ _ _ _ [_, _, _, _, _, _, _, _, _] _
      refine run_ret ?_
      refine fin_ret1 rfl rfl ?_
      exact ⟨bt (by omega), H.noRows⟩
    · skip
      refine ops_val (ex_pick_t rfl rfl) ?_
      refine ops_val (ex_assign rfl) ?_
      refine ops_nil ?_
      change Run _ _ _ _ [_, _, _, _, _, _, _, _, _] _
      refine run_ret ?_
      refine fin_ret1 rfl rfl ?_
      exact ⟨bf (by omega), H.noRows⟩
  · skip
    refine ops_val (ex_move rfl) ?_
    change Ops _ _ _ _ _ _ [_, _, _, _, _, _, _, _, _] _
    refine ops_no rfl ?_
    refine ops_no rfl ?_
    refine ops_val (ex_pick_f rfl rfl) ?_
    refine ops_val (ex_assign rfl) ?_
    refine ops_nil ?_
    change Run _ _ _ _ [_, _, _, _, _, _, _, _, _] _
    refine run_ret ?_
    refine fin_ret1 rfl rfl ?_
    exact ⟨bf (by omega), H.noRows⟩
set_option maxRecDepth 100000 in
set_option maxHeartbeats 4000000 in
theorem nodes9 (n : Int) (w0 : World) :
    Does Tryz.prog 69 #[.int .i64 n] w0 (fun r w' => r = .bool (decide (1 ≤ n ∧ n ≤ 5)) ∧ Hp w0 w' [] []) := by
  refine does_of Tryz.func69 Tryz.ntmps69 rfl ?_
  change Run _ _ _ _ [.int .i64 n, undef, undef, undef, undef, undef, undef, undef, undef] _
  have H := Hp.refl w0
  refine run_seq ?_
  refine run_region ?_
  refine ops_val (ex_assign rfl) ?_
  refine ops_nil ?_
  change Run _ _ _ _ [_, _, _, _, _, _, _, _, _] _
  refine run_seq ?_
  refine run_region ?_
  refine ops_val (ex_move rfl) ?_
  refine ops_test (ex_geq rfl rfl) (fun hp4 => ?_) (fun hp4 => ?_)
  · skip
    refine ops_val (ex_move rfl) ?_
    change Ops _ _ _ _ _ _ [_, _, _, _, _, _, _, _, _] _
    refine ops_yes rfl ?_
    refine ops_val (ex_move rfl) ?_
    refine ops_yes rfl ?_
    refine ops_test (ex_leq rfl rfl) (fun hp7 => ?_) (fun hp7 => ?_)
    · skip
      refine ops_val (ex_pick_t rfl rfl) ?_
      refine ops_val (ex_assign rfl) ?_
      refine ops_nil ?_
      change Run _ _ _ _ [_, _, _, _, _, _, _, _, _] _
      refine run_ret ?_
      refine fin_ret1 rfl rfl ?_
      exact ⟨bt (by omega), H.noRows⟩
    · skip
      refine ops_val (ex_pick_t rfl rfl) ?_
      refine ops_val (ex_assign rfl) ?_
      refine ops_nil ?_
      change Run _ _ _ _ [_, _, _, _, _, _, _, _, _] _
      refine run_ret ?_
      refine fin_ret1 rfl rfl ?_
      exact ⟨bf (by omega), H.noRows⟩
  · skip
    refine ops_val (ex_move rfl) ?_
    change Ops _ _ _ _ _ _ [_, _, _, _, _, _, _, _, _] _
    refine ops_no rfl ?_
    refine ops_no rfl ?_
    refine ops_val (ex_pick_f rfl rfl) ?_
    refine ops_val (ex_assign rfl) ?_
    refine ops_nil ?_
    change Run _ _ _ _ [_, _, _, _, _, _, _, _, _] _
    refine run_ret ?_
    refine fin_ret1 rfl rfl ?_
    exact ⟨bf (by omega), H.noRows⟩
set_option maxRecDepth 100000 in
set_option maxHeartbeats 4000000 in
theorem client14 (n : Int) (w0 : World) :
    Does Tryz.prog 22 #[.int .i64 n] w0 (fun r w' => r = .bool (decide (1 ≤ n ∧ n ≤ 8)) ∧ Hp w0 w' [] []) := by
  refine does_of Tryz.func22 Tryz.ntmps22 rfl ?_
  change Run _ _ _ _ [.int .i64 n, undef, undef, undef, undef, undef, undef, undef, undef] _
  have H := Hp.refl w0
  refine run_seq ?_
  refine run_region ?_
  refine ops_val (ex_assign rfl) ?_
  refine ops_nil ?_
  change Run _ _ _ _ [_, _, _, _, _, _, _, _, _] _
  refine run_seq ?_
  refine run_region ?_
  refine ops_val (ex_move rfl) ?_
  refine ops_test (ex_geq rfl rfl) (fun hp4 => ?_) (fun hp4 => ?_)
  · skip
    refine ops_val (ex_move rfl) ?_
    change Ops _ _ _ _ _ _ [_, _, _, _, _, _, _, _, _] _
    refine ops_yes rfl ?_
    refine ops_val (ex_move rfl) ?_
    refine ops_yes rfl ?_
    refine ops_test (ex_leq rfl rfl) (fun hp7 => ?_) (fun hp7 => ?_)
    · skip
      refine ops_val (ex_pick_t rfl rfl) ?_
      refine ops_val (ex_assign rfl) ?_
      refine ops_nil ?_
      change Run _ _ _ _ [_, _, _, _, _, _, _, _, _] _
      refine run_ret ?_
      refine fin_ret1 rfl rfl ?_
      exact ⟨bt (by omega), H.noRows⟩
    · skip
      refine ops_val (ex_pick_t rfl rfl) ?_
      refine ops_val (ex_assign rfl) ?_
      refine ops_nil ?_
      change Run _ _ _ _ [_, _, _, _, _, _, _, _, _] _
      refine run_ret ?_
      refine fin_ret1 rfl rfl ?_
      exact ⟨bf (by omega), H.noRows⟩
  · skip
    refine ops_val (ex_move rfl) ?_
    change Ops _ _ _ _ _ _ [_, _, _, _, _, _, _, _, _] _
    refine ops_no rfl ?_
    refine ops_no rfl ?_
    refine ops_val (ex_pick_f rfl rfl) ?_
    refine ops_val (ex_assign rfl) ?_
    refine ops_nil ?_
    change Run _ _ _ _ [_, _, _, _, _, _, _, _, _] _
    refine run_ret ?_
    refine fin_ret1 rfl rfl ?_
    exact ⟨bf (by omega), H.noRows⟩
set_option maxRecDepth 100000 in
set_option maxHeartbeats 4000000 in
theorem seq14 (n : Int) (w0 : World) :
    Does Tryz.prog 23 #[.int .i64 n] w0 (fun r w' => r = .bool (decide (1 ≤ n ∧ n ≤ 4611686018427387904)) ∧ Hp w0 w' [] []) := by
  refine does_of Tryz.func23 Tryz.ntmps23 rfl ?_
  change Run _ _ _ _ [.int .i64 n, undef, undef, undef, undef, undef, undef, undef, undef] _
  have H := Hp.refl w0
  refine run_seq ?_
  refine run_region ?_
  refine ops_val (ex_assign rfl) ?_
  refine ops_nil ?_
  change Run _ _ _ _ [_, _, _, _, _, _, _, _, _] _
  refine run_seq ?_
  refine run_region ?_
  refine ops_val (ex_move rfl) ?_
  refine ops_test (ex_geq rfl rfl) (fun hp4 => ?_) (fun hp4 => ?_)
  · skip
    refine ops_val (ex_move rfl) ?_
    change Ops _ _ _ _ _ _ [_, _, _, _, _, _, _, _, _] _
    refine ops_yes rfl ?_
    refine ops_val (ex_move rfl) ?_
    refine ops_yes rfl ?_
    refine ops_test (ex_leq rfl rfl) (fun hp7 => ?_) (fun hp7 => ?_)
    · skip
      refine ops_val (ex_pick_t rfl rfl) ?_
      refine ops_val (ex_assign rfl) ?_
      refine ops_nil ?_
      change Run _ _ _ _ [_, _, _, _, _, _, _, _, _] _
      refine run_ret ?_
      refine fin_ret1 rfl rfl ?_
      exact ⟨bt (by omega), H.noRows⟩
    · skip
      refine ops_val (ex_pick_t rfl rfl) ?_
      refine ops_val (ex_assign rfl) ?_
      refine ops_nil ?_
      change Run _ _ _ _ [_, _, _, _, _, _, _, _, _] _
      refine run_ret ?_
      refine fin_ret1 rfl rfl ?_
      exact ⟨bf (by omega), H.noRows⟩
  · skip
    refine ops_val (ex_move rfl) ?_
    change Ops _ _ _ _ _ _ [_, _, _, _, _, _, _, _, _] _
    refine ops_no rfl ?_
    refine ops_no rfl ?_
    refine ops_val (ex_pick_f rfl rfl) ?_
    refine ops_val (ex_assign rfl) ?_
    refine ops_nil ?_
    change Run _ _ _ _ [_, _, _, _, _, _, _, _, _] _
    refine run_ret ?_
    refine fin_ret1 rfl rfl ?_
    exact ⟨bf (by omega), H.noRows⟩
set_option maxRecDepth 100000 in
set_option maxHeartbeats 4000000 in
theorem group16 (n : Int) (w0 : World) :
    Does Tryz.prog 66 #[.int .i64 n] w0 (fun r w' => r = .bool (decide (1 ≤ n ∧ n < 8)) ∧ Hp w0 w' [] []) := by
  refine does_of Tryz.func66 Tryz.ntmps66 rfl ?_
  change Run _ _ _ _ [.int .i64 n, undef, undef, undef, undef, undef, undef, undef, undef] _
  have H := Hp.refl w0
  refine run_seq ?_
  refine run_region ?_
  refine ops_val (ex_assign rfl) ?_
  refine ops_nil ?_
  change Run _ _ _ _ [_, _, _, _, _, _, _, _, _] _
  refine run_seq ?_
  refine run_region ?_
  refine ops_val (ex_move rfl) ?_
  refine ops_test (ex_geq rfl rfl) (fun hp4 => ?_) (fun hp4 => ?_)
  · skip
    refine ops_val (ex_move rfl) ?_
    change Ops _ _ _ _ _ _ [_, _, _, _, _, _, _, _, _] _
    refine ops_yes rfl ?_
    refine ops_val (ex_move rfl) ?_
    refine ops_yes rfl ?_
    refine ops_test (ex_lss rfl rfl) (fun hp7 => ?_) (fun hp7 => ?_)
    · skip
      refine ops_val (ex_pick_t rfl rfl) ?_
      refine ops_val (ex_assign rfl) ?_
      refine ops_nil ?_
      change Run _ _ _ _ [_, _, _, _, _, _, _, _, _] _
      refine run_ret ?_
      refine fin_ret1 rfl rfl ?_
      exact ⟨bt (by omega), H.noRows⟩
    · skip
      refine ops_val (ex_pick_t rfl rfl) ?_
      refine ops_val (ex_assign rfl) ?_
      refine ops_nil ?_
      change Run _ _ _ _ [_, _, _, _, _, _, _, _, _] _
      refine run_ret ?_
      refine fin_ret1 rfl rfl ?_
      exact ⟨bf (by omega), H.noRows⟩
  · skip
    refine ops_val (ex_move rfl) ?_
    change Ops _ _ _ _ _ _ [_, _, _, _, _, _, _, _, _] _
    refine ops_no rfl ?_
    refine ops_no rfl ?_
    refine ops_val (ex_pick_f rfl rfl) ?_
    refine ops_val (ex_assign rfl) ?_
    refine ops_nil ?_
    change Run _ _ _ _ [_, _, _, _, _, _, _, _, _] _
    refine run_ret ?_
    refine fin_ret1 rfl rfl ?_
    exact ⟨bf (by omega), H.noRows⟩
set_option maxRecDepth 100000 in
set_option maxHeartbeats 4000000 in
theorem group_l (n : Int) (w0 : World) :
    Does Tryz.prog 94 #[.int .i64 n] w0 (fun r w' => r = .bool (decide (1 ≤ n ∧ n < 8)) ∧ Hp w0 w' [] []) := by
  refine does_of Tryz.func94 Tryz.ntmps94 rfl ?_
  change Run _ _ _ _ [.int .i64 n, undef, undef, undef, undef, undef, undef, undef, undef] _
  have H := Hp.refl w0
  refine run_seq ?_
  refine run_region ?_
  refine ops_val (ex_assign rfl) ?_
  refine ops_nil ?_
  change Run _ _ _ _ [_, _, _, _, _, _, _, _, _] _
  refine run_seq ?_
  refine run_region ?_
  refine ops_val (ex_move rfl) ?_
  refine ops_test (ex_geq rfl rfl) (fun hp4 => ?_) (fun hp4 => ?_)
  · skip
    refine ops_val (ex_move rfl) ?_
    change Ops _ _ _ _ _ _ [_, _, _, _, _, _, _, _, _] _
    refine ops_yes rfl ?_
    refine ops_val (ex_move rfl) ?_
    refine ops_yes rfl ?_
    refine ops_test (ex_lss rfl rfl) (fun hp7 => ?_) (fun hp7 => ?_)
    · skip
      refine ops_val (ex_pick_t rfl rfl) ?_
      refine ops_val (ex_assign rfl) ?_
      refine ops_nil ?_
      change Run _ _ _ _ [_, _, _, _, _, _, _, _, _] _
      refine run_ret ?_
      refine fin_ret1 rfl rfl ?_
      exact ⟨bt (by omega), H.noRows⟩
    · skip
      refine ops_val (ex_pick_t rfl rfl) ?_
      refine ops_val (ex_assign rfl) ?_
      refine ops_nil ?_
      change Run _ _ _ _ [_, _, _, _, _, _, _, _, _] _
      refine run_ret ?_
      refine fin_ret1 rfl rfl ?_
      exact ⟨bf (by omega), H.noRows⟩
  · skip
    refine ops_val (ex_move rfl) ?_
    change Ops _ _ _ _ _ _ [_, _, _, _, _, _, _, _, _] _
    refine ops_no rfl ?_
    refine ops_no rfl ?_
    refine ops_val (ex_pick_f rfl rfl) ?_
    refine ops_val (ex_assign rfl) ?_
    refine ops_nil ?_
    change Run _ _ _ _ [_, _, _, _, _, _, _, _, _] _
    refine run_ret ?_
    refine fin_ret1 rfl rfl ?_
    exact ⟨bf (by omega), H.noRows⟩
set_option maxRecDepth 100000 in
set_option maxHeartbeats 4000000 in
theorem less_b (a b : Bal) (w0 : World) :
    Does Tryz.prog 84 #[.agg [.int .i64 a.r, .int .i64 a.n].toArray, .agg [.int .i64 b.r, .int .i64 b.n].toArray] w0 (fun r w' => r = .bool (decide (Bal.lt a b)) ∧ Hp w0 w' [] []) := by
  refine does_of Tryz.func84 Tryz.ntmps84 rfl ?_
  refine nR24 ?_
  have H := Hp.refl w0
  refine run_seq ?_
  refine run_region ?_
  refine ops_box rfl rfl H ?_
  intro w1 g1 H1 hg1
  refine ops_box rfl rfl H1 ?_
  intro w2 g2 H2 hg2
  refine ops_val (ex_assign rfl) ?_
  refine ops_nil ?_
  refine nR24 ?_
  refine run_seq ?_
  refine run_region ?_
  refine ops_val (ex_fieldAddr fl36_0 rfl) ?_
  refine ops_val (ex_load ty3 rfl (H2.cell (i := 0) rfl rfl)) ?_
  refine ops_val (ex_fieldAddr fl36_0 rfl) ?_
  refine ops_val (ex_load ty3 rfl (H2.cell (i := 1) rfl rfl)) ?_
  refine nO24 ?_
  refine ops_test (ex_lss rfl rfl) (fun hp9 => ?_) (fun hp9 => ?_)
  · skip
    refine ops_val (ex_move rfl) ?_
    refine ops_no rfl ?_
    refine nO24 ?_
    refine ops_no rfl ?_
    refine ops_no rfl ?_
    refine nO24 ?_
    refine ops_no rfl ?_
    refine ops_no rfl ?_
    refine nO24 ?_
    refine ops_no rfl ?_
    refine ops_no rfl ?_
    refine nO24 ?_
    refine ops_no rfl ?_
    refine ops_no rfl ?_
    refine nO24 ?_
    refine ops_no rfl ?_
    refine ops_no rfl ?_
    refine nO24 ?_
    refine ops_no rfl ?_
    refine ops_val (ex_pick_t rfl rfl) ?_
    refine ops_val (ex_assign rfl) ?_
    refine ops_nil ?_
    refine nR24 ?_
    refine run_ret ?_
    refine fin_ret1 rfl rfl ?_
    exact ⟨bt (by omega), H2.noRows⟩
  · skip
    refine ops_val (ex_move rfl) ?_
    refine ops_yes rfl ?_
    refine ops_val (ex_fieldAddr fl36_0 rfl) ?_
    refine nO24 ?_
    refine ops_yes rfl ?_
    refine ops_val (ex_load ty3 rfl (H2.cell (i := 0) rfl rfl)) ?_
    refine ops_yes rfl ?_
    refine ops_val (ex_fieldAddr fl36_0 rfl) ?_
    refine nO24 ?_
    refine ops_yes rfl ?_
    refine ops_val (ex_load ty3 rfl (H2.cell (i := 1) rfl rfl)) ?_
    refine ops_yes rfl ?_
    refine ops_test (ex_eql rfl rfl) (fun hp15 => ?_) (fun hp15 => ?_)
    · skip
      refine ops_yes rfl ?_
      refine ops_val (ex_move rfl) ?_
      refine nO24 ?_
      refine ops_yes rfl ?_
      refine ops_val (ex_fieldAddr fl36_1 rfl) ?_
      refine ops_yes rfl ?_
      refine ops_val (ex_load ty3 rfl (H2.cell (i := 0) rfl rfl)) ?_
      refine nO24 ?_
      refine ops_yes rfl ?_
      refine ops_val (ex_fieldAddr fl36_1 rfl) ?_
      refine ops_yes rfl ?_
      refine ops_val (ex_load ty3 rfl (H2.cell (i := 1) rfl rfl)) ?_
      refine nO24 ?_
      refine ops_yes rfl ?_
      refine ops_test (ex_lss rfl rfl) (fun hp21 => ?_) (fun hp21 => ?_)
      · skip
        refine ops_yes rfl ?_
        refine ops_val (ex_pick_t rfl rfl) ?_
        refine ops_val (ex_pick_f rfl rfl) ?_
        refine ops_val (ex_assign rfl) ?_
        refine ops_nil ?_
        refine nR24 ?_
        refine run_ret ?_
        refine fin_ret1 rfl rfl ?_
        exact ⟨bt (by omega), H2.noRows⟩
      · skip
        refine ops_yes rfl ?_
        refine ops_val (ex_pick_t rfl rfl) ?_
        refine ops_val (ex_pick_f rfl rfl) ?_
        refine ops_val (ex_assign rfl) ?_
        refine ops_nil ?_
        refine nR24 ?_
        refine run_ret ?_
        refine fin_ret1 rfl rfl ?_
        exact ⟨bf (by omega), H2.noRows⟩
    · skip
      refine ops_yes rfl ?_
      refine ops_val (ex_move rfl) ?_
      refine nO24 ?_
      refine ops_no rfl ?_
      refine ops_no rfl ?_
      refine nO24 ?_
      refine ops_no rfl ?_
      refine ops_no rfl ?_
      refine nO24 ?_
      refine ops_no rfl ?_
      refine ops_yes rfl ?_
      refine ops_val (ex_pick_f rfl rfl) ?_
      refine ops_val (ex_pick_f rfl rfl) ?_
      refine ops_val (ex_assign rfl) ?_
      refine ops_nil ?_
      refine nR24 ?_
      refine run_ret ?_
      refine fin_ret1 rfl rfl ?_
      exact ⟨bf (by omega), H2.noRows⟩
set_option maxRecDepth 100000 in
set_option maxHeartbeats 4000000 in
theorem less9 (a b : Bal) (w0 : World) :
    Does Tryz.prog 68 #[.agg [.int .i64 a.r, .int .i64 a.n].toArray, .agg [.int .i64 b.r, .int .i64 b.n].toArray] w0 (fun r w' => r = .bool (decide (Bal.lt a b)) ∧ Hp w0 w' [] []) := by
  refine does_of Tryz.func68 Tryz.ntmps68 rfl ?_
  refine nR20 ?_
  have H := Hp.refl w0
  refine run_seq ?_
  refine run_region ?_
  refine ops_box rfl rfl H ?_
  intro w1 g1 H1 hg1
  refine ops_box rfl rfl H1 ?_
  intro w2 g2 H2 hg2
  refine ops_val (ex_assign rfl) ?_
  refine ops_nil ?_
  refine nR20 ?_
  refine run_seq ?_
  refine run_seq ?_
  refine run_region ?_
  refine ops_val (ex_fieldAddr fl36_0 rfl) ?_
  refine ops_val (ex_load ty3 rfl (H2.cell (i := 0) rfl rfl)) ?_
  refine ops_val (ex_fieldAddr fl36_0 rfl) ?_
  refine ops_val (ex_load ty3 rfl (H2.cell (i := 1) rfl rfl)) ?_
  refine nO20 ?_
  refine ops_test (ex_neq rfl rfl) (fun hp9 => ?_) (fun hp9 => ?_)
  · skip
    refine ops_nil ?_
    refine nR20 ?_
    refine run_cond_true rfl ?_
    refine run_seq ?_
    refine run_region ?_
    refine ops_val (ex_fieldAddr fl36_0 rfl) ?_
    refine ops_val (ex_load ty3 rfl (H2.cell (i := 0) rfl rfl)) ?_
    refine ops_val (ex_fieldAddr fl36_0 rfl) ?_
    refine ops_val (ex_load ty3 rfl (H2.cell (i := 1) rfl rfl)) ?_
    refine nO20 ?_
    refine ops_test (ex_lss rfl rfl) (fun hp14 => ?_) (fun hp14 => ?_)
    · skip
      refine ops_val (ex_assign rfl) ?_
      refine ops_nil ?_
      refine nR20 ?_
      refine run_ret ?_
      refine fin_ret1 rfl rfl ?_
      exact ⟨bt (by omega), H2.noRows⟩
    · skip
      refine ops_val (ex_assign rfl) ?_
      refine ops_nil ?_
      refine nR20 ?_
      refine run_ret ?_
      refine fin_ret1 rfl rfl ?_
      exact ⟨bf (by omega), H2.noRows⟩
  · skip
    refine ops_nil ?_
    refine nR20 ?_
    refine run_cond_false rfl ?_
    refine run_skip ?_
    refine run_seq ?_
    refine run_region ?_
    refine ops_val (ex_fieldAddr fl36_1 rfl) ?_
    refine ops_val (ex_load ty3 rfl (H2.cell (i := 0) rfl rfl)) ?_
    refine ops_val (ex_fieldAddr fl36_1 rfl) ?_
    refine ops_val (ex_load ty3 rfl (H2.cell (i := 1) rfl rfl)) ?_
    refine nO20 ?_
    refine ops_test (ex_lss rfl rfl) (fun hp19 => ?_) (fun hp19 => ?_)
    · skip
      refine ops_val (ex_assign rfl) ?_
      refine ops_nil ?_
      refine nR20 ?_
      refine run_ret ?_
      refine fin_ret1 rfl rfl ?_
      exact ⟨bt (by omega), H2.noRows⟩
    · skip
      refine ops_val (ex_assign rfl) ?_
      refine ops_nil ?_
      refine nR20 ?_
      refine run_ret ?_
      refine fin_ret1 rfl rfl ?_
      exact ⟨bf (by omega), H2.noRows⟩
set_option maxRecDepth 100000 in
set_option maxHeartbeats 4000000 in
theorem may_b (a : Bal) (n : Int) (w0 : World) :
    Does Tryz.prog 92 #[.agg [.int .i64 a.r, .int .i64 a.n].toArray, .int .i64 n] w0 (fun r w' => r = .bool (decide (1 ≤ n ∧ n ≤ 5 ∧ 1 ≤ a.r ∧ 1 ≤ a.n ∧ a.n ≤ n)) ∧ Hp w0 w' [] []) := by
  refine does_of Tryz.func92 Tryz.ntmps92 rfl ?_
  refine nR23 ?_
  have H := Hp.refl w0
  refine run_seq ?_
  refine run_region ?_
  refine ops_box rfl rfl H ?_
  intro w1 g1 H1 hg1
  refine ops_val (ex_assign rfl) ?_
  refine ops_nil ?_
  refine nR23 ?_
  refine run_seq ?_
  refine run_region ?_
  refine ops_val (ex_move rfl) ?_
  refine ops_call_test (ex_call gf106 rfl) (known_b _ _) (fun hp6 w2 Hd => ?_) (fun hp6 w2 Hd => ?_)
  · have H2 := H1.callN Hd
    refine ops_val (ex_move rfl) ?_
    refine nO23 ?_
    refine ops_yes rfl ?_
    refine ops_val (ex_fieldAddr fl36_0 rfl) ?_
    refine ops_yes rfl ?_
    refine ops_val (ex_load ty3 rfl (H2.cell (i := 0) rfl rfl)) ?_
    refine nO23 ?_
    refine ops_yes rfl ?_
    refine ops_test (ex_geq rfl rfl) (fun hp10 => ?_) (fun hp10 => ?_)
    · skip
      refine ops_val (ex_pick_t rfl rfl) ?_
      refine ops_val (ex_move rfl) ?_
      refine nO23 ?_
      refine ops_yes rfl ?_
      refine ops_val (ex_fieldAddr fl36_1 rfl) ?_
      refine ops_yes rfl ?_
      refine ops_val (ex_load ty3 rfl (H2.cell (i := 0) rfl rfl)) ?_
      refine nO23 ?_
      refine ops_yes rfl ?_
      refine ops_test (ex_geq rfl rfl) (fun hp15 => ?_) (fun hp15 => ?_)
      · skip
        refine ops_val (ex_pick_t rfl rfl) ?_
        refine ops_val (ex_move rfl) ?_
        refine nO23 ?_
        refine ops_yes rfl ?_
        refine ops_val (ex_fieldAddr fl36_1 rfl) ?_
        refine ops_yes rfl ?_
        refine ops_val (ex_load ty3 rfl (H2.cell (i := 0) rfl rfl)) ?_
        refine nO23 ?_
        refine ops_yes rfl ?_
        refine ops_val (ex_move rfl) ?_
        refine ops_yes rfl ?_
        refine ops_test (ex_leq rfl rfl) (fun hp21 => ?_) (fun hp21 => ?_)
        · skip
          refine ops_val (ex_pick_t rfl rfl) ?_
          refine ops_val (ex_assign rfl) ?_
          refine ops_nil ?_
          refine nR23 ?_
          refine run_ret ?_
          refine fin_ret1 rfl rfl ?_
          exact ⟨bt (by omega), H2.noRows⟩
        · skip
          refine ops_val (ex_pick_t rfl rfl) ?_
          refine ops_val (ex_assign rfl) ?_
          refine ops_nil ?_
          refine nR23 ?_
          refine run_ret ?_
          refine fin_ret1 rfl rfl ?_
          exact ⟨bf (by omega), H2.noRows⟩
      · skip
        refine ops_val (ex_pick_t rfl rfl) ?_
        refine ops_val (ex_move rfl) ?_
        refine nO23 ?_
        refine ops_no rfl ?_
        refine ops_no rfl ?_
        refine nO23 ?_
        refine ops_no rfl ?_
        refine ops_no rfl ?_
        refine ops_val (ex_pick_f rfl rfl) ?_
        refine ops_val (ex_assign rfl) ?_
        refine ops_nil ?_
        refine nR23 ?_
        refine run_ret ?_
        refine fin_ret1 rfl rfl ?_
        exact ⟨bf (by omega), H2.noRows⟩
    · skip
      refine ops_val (ex_pick_t rfl rfl) ?_
      refine ops_val (ex_move rfl) ?_
      refine nO23 ?_
      refine ops_no rfl ?_
      refine ops_no rfl ?_
      refine nO23 ?_
      refine ops_no rfl ?_
      refine ops_val (ex_pick_f rfl rfl) ?_
      refine ops_val (ex_move rfl) ?_
      refine nO23 ?_
      refine ops_no rfl ?_
      refine ops_no rfl ?_
      refine nO23 ?_
      refine ops_no rfl ?_
      refine ops_no rfl ?_
      refine ops_val (ex_pick_f rfl rfl) ?_
      refine ops_val (ex_assign rfl) ?_
      refine ops_nil ?_
      refine nR23 ?_
      refine run_ret ?_
      refine fin_ret1 rfl rfl ?_
      exact ⟨bf (by omega), H2.noRows⟩
  · have H2 := H1.callN Hd
    refine ops_val (ex_move rfl) ?_
    refine nO23 ?_
    refine ops_no rfl ?_
    refine ops_no rfl ?_
    refine nO23 ?_
    refine ops_no rfl ?_
    refine ops_val (ex_pick_f rfl rfl) ?_
    refine ops_val (ex_move rfl) ?_
    refine nO23 ?_
    refine ops_no rfl ?_
    refine ops_no rfl ?_
    refine nO23 ?_
    refine ops_no rfl ?_
    refine ops_val (ex_pick_f rfl rfl) ?_
    refine ops_val (ex_move rfl) ?_
    refine nO23 ?_
    refine ops_no rfl ?_
    refine ops_no rfl ?_
    refine nO23 ?_
    refine ops_no rfl ?_
    refine ops_no rfl ?_
    refine ops_val (ex_pick_f rfl rfl) ?_
    refine ops_val (ex_assign rfl) ?_
    refine ops_nil ?_
    refine nR23 ?_
    refine run_ret ?_
    refine fin_ret1 rfl rfl ?_
    exact ⟨bf (by omega), H2.noRows⟩
set_option maxRecDepth 100000 in
set_option maxHeartbeats 4000000 in
theorem may9 (a : Bal) (n : Int) (w0 : World) :
    Does Tryz.prog 46 #[.agg [.int .i64 a.r, .int .i64 a.n].toArray, .int .i64 n] w0 (fun r w' => r = .bool (decide (1 ≤ n ∧ n ≤ 5 ∧ 1 ≤ a.r ∧ 1 ≤ a.n ∧ a.n ≤ n)) ∧ Hp w0 w' [] []) := by
  refine does_of Tryz.func46 Tryz.ntmps46 rfl ?_
  refine nR23 ?_
  have H := Hp.refl w0
  refine run_seq ?_
  refine run_region ?_
  refine ops_box rfl rfl H ?_
  intro w1 g1 H1 hg1
  refine ops_val (ex_assign rfl) ?_
  refine ops_nil ?_
  refine nR23 ?_
  refine run_seq ?_
  refine run_region ?_
  refine ops_val (ex_move rfl) ?_
  refine ops_call_test (ex_call gf69 rfl) (nodes9 _ _) (fun hp6 w2 Hd => ?_) (fun hp6 w2 Hd => ?_)
  · have H2 := H1.callN Hd
    refine ops_val (ex_move rfl) ?_
    refine nO23 ?_
    refine ops_yes rfl ?_
    refine ops_val (ex_fieldAddr fl36_1 rfl) ?_
    refine ops_yes rfl ?_
    refine ops_val (ex_load ty3 rfl (H2.cell (i := 0) rfl rfl)) ?_
    refine nO23 ?_
    refine ops_yes rfl ?_
    refine ops_test (ex_geq rfl rfl) (fun hp10 => ?_) (fun hp10 => ?_)
    · skip
      refine ops_val (ex_pick_t rfl rfl) ?_
      refine ops_val (ex_move rfl) ?_
      refine nO23 ?_
      refine ops_yes rfl ?_
      refine ops_val (ex_fieldAddr fl36_1 rfl) ?_
      refine ops_yes rfl ?_
      refine ops_val (ex_load ty3 rfl (H2.cell (i := 0) rfl rfl)) ?_
      refine nO23 ?_
      refine ops_yes rfl ?_
      refine ops_val (ex_move rfl) ?_
      refine ops_yes rfl ?_
      refine ops_test (ex_leq rfl rfl) (fun hp16 => ?_) (fun hp16 => ?_)
      · skip
        refine ops_val (ex_pick_t rfl rfl) ?_
        refine ops_val (ex_move rfl) ?_
        refine nO23 ?_
        refine ops_yes rfl ?_
        refine ops_val (ex_fieldAddr fl36_0 rfl) ?_
        refine ops_yes rfl ?_
        refine ops_val (ex_load ty3 rfl (H2.cell (i := 0) rfl rfl)) ?_
        refine nO23 ?_
        refine ops_yes rfl ?_
        refine ops_test (ex_geq rfl rfl) (fun hp21 => ?_) (fun hp21 => ?_)
        · skip
          refine ops_val (ex_pick_t rfl rfl) ?_
          refine ops_val (ex_assign rfl) ?_
          refine ops_nil ?_
          refine nR23 ?_
          refine run_ret ?_
          refine fin_ret1 rfl rfl ?_
          exact ⟨bt (by omega), H2.noRows⟩
        · skip
          refine ops_val (ex_pick_t rfl rfl) ?_
          refine ops_val (ex_assign rfl) ?_
          refine ops_nil ?_
          refine nR23 ?_
          refine run_ret ?_
          refine fin_ret1 rfl rfl ?_
          exact ⟨bf (by omega), H2.noRows⟩
      · skip
        refine ops_val (ex_pick_t rfl rfl) ?_
        refine ops_val (ex_move rfl) ?_
        refine nO23 ?_
        refine ops_no rfl ?_
        refine ops_no rfl ?_
        refine nO23 ?_
        refine ops_no rfl ?_
        refine ops_val (ex_pick_f rfl rfl) ?_
        refine ops_val (ex_assign rfl) ?_
        refine ops_nil ?_
        refine nR23 ?_
        refine run_ret ?_
        refine fin_ret1 rfl rfl ?_
        exact ⟨bf (by omega), H2.noRows⟩
    · skip
      refine ops_val (ex_pick_t rfl rfl) ?_
      refine ops_val (ex_move rfl) ?_
      refine nO23 ?_
      refine ops_no rfl ?_
      refine ops_no rfl ?_
      refine nO23 ?_
      refine ops_no rfl ?_
      refine ops_no rfl ?_
      refine ops_val (ex_pick_f rfl rfl) ?_
      refine ops_val (ex_move rfl) ?_
      refine nO23 ?_
      refine ops_no rfl ?_
      refine ops_no rfl ?_
      refine nO23 ?_
      refine ops_no rfl ?_
      refine ops_val (ex_pick_f rfl rfl) ?_
      refine ops_val (ex_assign rfl) ?_
      refine ops_nil ?_
      refine nR23 ?_
      refine run_ret ?_
      refine fin_ret1 rfl rfl ?_
      exact ⟨bf (by omega), H2.noRows⟩
  · have H2 := H1.callN Hd
    refine ops_val (ex_move rfl) ?_
    refine nO23 ?_
    refine ops_no rfl ?_
    refine ops_no rfl ?_
    refine nO23 ?_
    refine ops_no rfl ?_
    refine ops_val (ex_pick_f rfl rfl) ?_
    refine ops_val (ex_move rfl) ?_
    refine nO23 ?_
    refine ops_no rfl ?_
    refine ops_no rfl ?_
    refine nO23 ?_
    refine ops_no rfl ?_
    refine ops_no rfl ?_
    refine ops_val (ex_pick_f rfl rfl) ?_
    refine ops_val (ex_move rfl) ?_
    refine nO23 ?_
    refine ops_no rfl ?_
    refine ops_no rfl ?_
    refine nO23 ?_
    refine ops_no rfl ?_
    refine ops_val (ex_pick_f rfl rfl) ?_
    refine ops_val (ex_assign rfl) ?_
    refine ops_nil ?_
    refine nR23 ?_
    refine run_ret ?_
    refine fin_ret1 rfl rfl ?_
    exact ⟨bf (by omega), H2.noRows⟩
set_option maxRecDepth 100000 in
set_option maxHeartbeats 4000000 in
theorem real_a (a : Bal) (w0 : World) :
    Does Tryz.prog 107 #[.agg [.int .i64 a.r, .int .i64 a.n].toArray] w0 (fun r w' => r = .bool (decide (1 ≤ a.r ∧ 1 ≤ a.n)) ∧ Hp w0 w' [] []) := by
  refine does_of Tryz.func107 Tryz.ntmps107 rfl ?_
  change Run _ _ _ _ [.agg [.int .i64 a.r, .int .i64 a.n].toArray, undef, undef, undef, undef, undef, undef, undef, undef, undef, undef] _
  have H := Hp.refl w0
  refine run_seq ?_
  refine run_region ?_
  refine ops_box rfl rfl H ?_
  intro w1 g1 H1 hg1
  refine ops_val (ex_assign rfl) ?_
  refine ops_nil ?_
  change Run _ _ _ _ [_, _, _, _, _, _, _, _, _, _, _] _
  refine run_seq ?_
  refine run_region ?_
  refine ops_val (ex_fieldAddr fl36_0 rfl) ?_
  refine ops_val (ex_load ty3 rfl (H1.cell (i := 0) rfl rfl)) ?_
  refine ops_test (ex_geq rfl rfl) (fun hp5 => ?_) (fun hp5 => ?_)
  · skip
    refine ops_val (ex_move rfl) ?_
    change Ops _ _ _ _ _ _ [_, _, _, _, _, _, _, _, _, _, _] _
    refine ops_yes rfl ?_
    refine ops_val (ex_fieldAddr fl36_1 rfl) ?_
    refine ops_yes rfl ?_
    refine ops_val (ex_load ty3 rfl (H1.cell (i := 0) rfl rfl)) ?_
    change Ops _ _ _ _ _ _ [_, _, _, _, _, _, _, _, _, _, _] _
    refine ops_yes rfl ?_
    refine ops_test (ex_geq rfl rfl) (fun hp9 => ?_) (fun hp9 => ?_)
    · skip
      refine ops_val (ex_pick_t rfl rfl) ?_
      refine ops_val (ex_assign rfl) ?_
      refine ops_nil ?_
      change Run _ _ _ _ [_, _, _, _, _, _, _, _, _, _, _] _
      refine run_ret ?_
      refine fin_ret1 rfl rfl ?_
      exact ⟨bt (by omega), H1.noRows⟩
    · skip
      refine ops_val (ex_pick_t rfl rfl) ?_
      refine ops_val (ex_assign rfl) ?_
      refine ops_nil ?_
      change Run _ _ _ _ [_, _, _, _, _, _, _, _, _, _, _] _
      refine run_ret ?_
      refine fin_ret1 rfl rfl ?_
      exact ⟨bf (by omega), H1.noRows⟩
  · skip
    refine ops_val (ex_move rfl) ?_
    change Ops _ _ _ _ _ _ [_, _, _, _, _, _, _, _, _, _, _] _
    refine ops_no rfl ?_
    refine ops_no rfl ?_
    change Ops _ _ _ _ _ _ [_, _, _, _, _, _, _, _, _, _, _] _
    refine ops_no rfl ?_
    refine ops_val (ex_pick_f rfl rfl) ?_
    refine ops_val (ex_assign rfl) ?_
    refine ops_nil ?_
    change Run _ _ _ _ [_, _, _, _, _, _, _, _, _, _, _] _
    refine run_ret ?_
    refine fin_ret1 rfl rfl ?_
    exact ⟨bf (by omega), H1.noRows⟩
set_option maxRecDepth 100000 in
set_option maxHeartbeats 4000000 in
theorem turn10 (a : Bal) (w0 : World) :
    Does Tryz.prog 70 #[.agg [.int .i64 a.r, .int .i64 a.n].toArray] w0 (fun r w' => r = .bool (decide (1 ≤ a.r ∧ 1 ≤ a.n)) ∧ Hp w0 w' [] []) := by
  refine does_of Tryz.func70 Tryz.ntmps70 rfl ?_
  change Run _ _ _ _ [.agg [.int .i64 a.r, .int .i64 a.n].toArray, undef, undef, undef, undef, undef, undef, undef, undef, undef, undef] _
  have H := Hp.refl w0
  refine run_seq ?_
  refine run_region ?_
  refine ops_box rfl rfl H ?_
  intro w1 g1 H1 hg1
  refine ops_val (ex_assign rfl) ?_
  refine ops_nil ?_
  change Run _ _ _ _ [_, _, _, _, _, _, _, _, _, _, _] _
  refine run_seq ?_
  refine run_region ?_
  refine ops_val (ex_fieldAddr fl36_0 rfl) ?_
  refine ops_val (ex_load ty3 rfl (H1.cell (i := 0) rfl rfl)) ?_
  refine ops_test (ex_geq rfl rfl) (fun hp5 => ?_) (fun hp5 => ?_)
  · skip
    refine ops_val (ex_move rfl) ?_
    change Ops _ _ _ _ _ _ [_, _, _, _, _, _, _, _, _, _, _] _
    refine ops_yes rfl ?_
    refine ops_val (ex_fieldAddr fl36_1 rfl) ?_
    refine ops_yes rfl ?_
    refine ops_val (ex_load ty3 rfl (H1.cell (i := 0) rfl rfl)) ?_
    change Ops _ _ _ _ _ _ [_, _, _, _, _, _, _, _, _, _, _] _
    refine ops_yes rfl ?_
    refine ops_test (ex_geq rfl rfl) (fun hp9 => ?_) (fun hp9 => ?_)
    · skip
      refine ops_val (ex_pick_t rfl rfl) ?_
      refine ops_val (ex_assign rfl) ?_
      refine ops_nil ?_
      change Run _ _ _ _ [_, _, _, _, _, _, _, _, _, _, _] _
      refine run_ret ?_
      refine fin_ret1 rfl rfl ?_
      exact ⟨bt (by omega), H1.noRows⟩
    · skip
      refine ops_val (ex_pick_t rfl rfl) ?_
      refine ops_val (ex_assign rfl) ?_
      refine ops_nil ?_
      change Run _ _ _ _ [_, _, _, _, _, _, _, _, _, _, _] _
      refine run_ret ?_
      refine fin_ret1 rfl rfl ?_
      exact ⟨bf (by omega), H1.noRows⟩
  · skip
    refine ops_val (ex_move rfl) ?_
    change Ops _ _ _ _ _ _ [_, _, _, _, _, _, _, _, _, _, _] _
    refine ops_no rfl ?_
    refine ops_no rfl ?_
    change Ops _ _ _ _ _ _ [_, _, _, _, _, _, _, _, _, _, _] _
    refine ops_no rfl ?_
    refine ops_val (ex_pick_f rfl rfl) ?_
    refine ops_val (ex_assign rfl) ?_
    refine ops_nil ?_
    change Run _ _ _ _ [_, _, _, _, _, _, _, _, _, _, _] _
    refine run_ret ?_
    refine fin_ret1 rfl rfl ?_
    exact ⟨bf (by omega), H1.noRows⟩
set_option maxRecDepth 100000 in
set_option maxHeartbeats 4000000 in
theorem key15 (s : Blk) (w0 : World) :
    Does Tryz.prog 67 #[strV s] w0 (fun r w' => r = .bool (decide (1 ≤ s.length ∧ s.length ≤ 16)) ∧ Hp w0 w' [] []) := by
  refine does_of Tryz.func67 Tryz.ntmps67 rfl ?_
  change Run _ _ _ _ [strV s, undef, undef, undef, undef, undef, undef, undef, undef, undef, undef] _
  have H := Hp.refl w0
  refine run_seq ?_
  refine run_region ?_
  refine ops_val (ex_assign rfl) ?_
  refine ops_nil ?_
  change Run _ _ _ _ [_, _, _, _, _, _, _, _, _, _, _] _
  refine run_seq ?_
  refine run_region ?_
  refine ops_val (ex_move rfl) ?_
  refine ops_val (ex_len_strV Tryz.underlying9 rfl) ?_
  refine ops_test (ex_geq rfl rfl) (fun hp5 => ?_) (fun hp5 => ?_)
  · skip
    refine ops_val (ex_move rfl) ?_
    change Ops _ _ _ _ _ _ [_, _, _, _, _, _, _, _, _, _, _] _
    refine ops_yes rfl ?_
    refine ops_val (ex_move rfl) ?_
    refine ops_yes rfl ?_
    refine ops_val (ex_len_strV Tryz.underlying9 rfl) ?_
    change Ops _ _ _ _ _ _ [_, _, _, _, _, _, _, _, _, _, _] _
    refine ops_yes rfl ?_
    refine ops_test (ex_leq rfl rfl) (fun hp9 => ?_) (fun hp9 => ?_)
    · skip
      refine ops_val (ex_pick_t rfl rfl) ?_
      refine ops_val (ex_assign rfl) ?_
      refine ops_nil ?_
      change Run _ _ _ _ [_, _, _, _, _, _, _, _, _, _, _] _
      refine run_ret ?_
      refine fin_ret1 rfl rfl ?_
      exact ⟨bt (by omega), H.noRows⟩
    · skip
      refine ops_val (ex_pick_t rfl rfl) ?_
      refine ops_val (ex_assign rfl) ?_
      refine ops_nil ?_
      change Run _ _ _ _ [_, _, _, _, _, _, _, _, _, _, _] _
      refine run_ret ?_
      refine fin_ret1 rfl rfl ?_
      exact ⟨bf (by omega), H.noRows⟩
  · skip
    refine ops_val (ex_move rfl) ?_
    change Ops _ _ _ _ _ _ [_, _, _, _, _, _, _, _, _, _, _] _
    refine ops_no rfl ?_
    refine ops_no rfl ?_
    change Ops _ _ _ _ _ _ [_, _, _, _, _, _, _, _, _, _, _] _
    refine ops_no rfl ?_
    refine ops_val (ex_pick_f rfl rfl) ?_
    refine ops_val (ex_assign rfl) ?_
    refine ops_nil ?_
    change Run _ _ _ _ [_, _, _, _, _, _, _, _, _, _, _] _
    refine run_ret ?_
    refine fin_ret1 rfl rfl ?_
    exact ⟨bf (by omega), H.noRows⟩
set_option maxRecDepth 100000 in
set_option maxHeartbeats 4000000 in
theorem may_l (a : Rt) (w0 : World) :
    Does Tryz.prog 75 #[.agg [.int .i64 a.g, strV a.key, .int .i64 a.lease, .int .i64 a.net].toArray] w0 (fun r w' => r = .bool (decide (mayR a)) ∧ Hp w0 w' [] []) := by
  refine does_of Tryz.func75 Tryz.ntmps75 rfl ?_
  refine nR23 ?_
  have H := Hp.refl w0
  refine run_seq ?_
  refine run_region ?_
  refine ops_box rfl rfl H ?_
  intro w1 g1 H1 hg1
  refine ops_val (ex_assign rfl) ?_
  refine ops_nil ?_
  refine nR23 ?_
  refine run_seq ?_
  refine run_region ?_
  refine ops_val (ex_fieldAddr fl43_0 rfl) ?_
  refine ops_val (ex_load ty3 rfl (H1.cell (i := 0) rfl rfl)) ?_
  refine ops_call_test (ex_call gf94 rfl) (group_l _ _) (fun hp5 w2 Hd => ?_) (fun hp5 w2 Hd => ?_)
  · have H2 := H1.callN Hd
    refine ops_val (ex_move rfl) ?_
    refine nO23 ?_
    refine ops_yes rfl ?_
    refine ops_val (ex_fieldAddr fl43_1 rfl) ?_
    refine ops_yes rfl ?_
    refine ops_val (ex_load ty9 rfl (H2.cell (i := 0) rfl rfl)) ?_
    refine nO23 ?_
    refine ops_yes rfl ?_
    refine ops_val (ex_len_strV Tryz.underlying9 rfl) ?_
    refine ops_yes rfl ?_
    refine ops_test (ex_geq rfl rfl) (fun hp10 => ?_) (fun hp10 => ?_)
    · skip
      refine ops_val (ex_pick_t rfl rfl) ?_
      refine ops_val (ex_move rfl) ?_
      refine nO23 ?_
      refine ops_yes rfl ?_
      refine ops_val (ex_fieldAddr fl43_1 rfl) ?_
      refine ops_yes rfl ?_
      refine ops_val (ex_load ty9 rfl (H2.cell (i := 0) rfl rfl)) ?_
      refine nO23 ?_
      refine ops_yes rfl ?_
      refine ops_val (ex_len_strV Tryz.underlying9 rfl) ?_
      refine ops_yes rfl ?_
      refine ops_test (ex_leq rfl rfl) (fun hp16 => ?_) (fun hp16 => ?_)
      · skip
        refine ops_val (ex_pick_t rfl rfl) ?_
        refine ops_val (ex_move rfl) ?_
        refine nO23 ?_
        refine ops_yes rfl ?_
        refine ops_val (ex_fieldAddr fl43_2 rfl) ?_
        refine ops_yes rfl ?_
        refine ops_val (ex_load ty3 rfl (H2.cell (i := 0) rfl rfl)) ?_
        refine nO23 ?_
        refine ops_yes rfl ?_
        refine ops_test (ex_geq rfl rfl) (fun hp21 => ?_) (fun hp21 => ?_)
        · skip
          refine ops_val (ex_pick_t rfl rfl) ?_
          refine ops_val (ex_assign rfl) ?_
          refine ops_nil ?_
          refine nR23 ?_
          refine run_ret ?_
          refine fin_ret1 rfl rfl ?_
          exact ⟨bt (by omega), H2.noRows⟩
        · skip
          refine ops_val (ex_pick_t rfl rfl) ?_
          refine ops_val (ex_assign rfl) ?_
          refine ops_nil ?_
          refine nR23 ?_
          refine run_ret ?_
          refine fin_ret1 rfl rfl ?_
          exact ⟨bf (by omega), H2.noRows⟩
      · skip
        refine ops_val (ex_pick_t rfl rfl) ?_
        refine ops_val (ex_move rfl) ?_
        refine nO23 ?_
        refine ops_no rfl ?_
        refine ops_no rfl ?_
        refine nO23 ?_
        refine ops_no rfl ?_
        refine ops_val (ex_pick_f rfl rfl) ?_
        refine ops_val (ex_assign rfl) ?_
        refine ops_nil ?_
        refine nR23 ?_
        refine run_ret ?_
        refine fin_ret1 rfl rfl ?_
        exact ⟨bf (by omega), H2.noRows⟩
    · skip
      refine ops_val (ex_pick_t rfl rfl) ?_
      refine ops_val (ex_move rfl) ?_
      refine nO23 ?_
      refine ops_no rfl ?_
      refine ops_no rfl ?_
      refine nO23 ?_
      refine ops_no rfl ?_
      refine ops_no rfl ?_
      refine ops_val (ex_pick_f rfl rfl) ?_
      refine ops_val (ex_move rfl) ?_
      refine nO23 ?_
      refine ops_no rfl ?_
      refine ops_no rfl ?_
      refine nO23 ?_
      refine ops_no rfl ?_
      refine ops_val (ex_pick_f rfl rfl) ?_
      refine ops_val (ex_assign rfl) ?_
      refine ops_nil ?_
      refine nR23 ?_
      refine run_ret ?_
      refine fin_ret1 rfl rfl ?_
      exact ⟨bf (by omega), H2.noRows⟩
  · have H2 := H1.callN Hd
    refine ops_val (ex_move rfl) ?_
    refine nO23 ?_
    refine ops_no rfl ?_
    refine ops_no rfl ?_
    refine nO23 ?_
    refine ops_no rfl ?_
    refine ops_no rfl ?_
    refine ops_val (ex_pick_f rfl rfl) ?_
    refine ops_val (ex_move rfl) ?_
    refine nO23 ?_
    refine ops_no rfl ?_
    refine ops_no rfl ?_
    refine nO23 ?_
    refine ops_no rfl ?_
    refine ops_no rfl ?_
    refine ops_val (ex_pick_f rfl rfl) ?_
    refine ops_val (ex_move rfl) ?_
    refine nO23 ?_
    refine ops_no rfl ?_
    refine ops_no rfl ?_
    refine nO23 ?_
    refine ops_no rfl ?_
    refine ops_val (ex_pick_f rfl rfl) ?_
    refine ops_val (ex_assign rfl) ?_
    refine ops_nil ?_
    refine nR23 ?_
    refine run_ret ?_
    refine fin_ret1 rfl rfl ?_
    exact ⟨bf (by omega), H2.noRows⟩
set_option maxRecDepth 100000 in
set_option maxHeartbeats 4000000 in
theorem may16 (a : Rt) (w0 : World) :
    Does Tryz.prog 39 #[.agg [.int .i64 a.g, strV a.key, .int .i64 a.lease, .int .i64 a.net].toArray] w0 (fun r w' => r = .bool (decide (mayR a)) ∧ Hp w0 w' [] []) := by
  refine does_of Tryz.func39 Tryz.ntmps39 rfl ?_
  refine nR16 ?_
  have H := Hp.refl w0
  refine run_seq ?_
  refine run_region ?_
  refine ops_box rfl rfl H ?_
  intro w1 g1 H1 hg1
  refine ops_val (ex_assign rfl) ?_
  refine ops_nil ?_
  refine nR16 ?_
  refine run_seq ?_
  refine run_region ?_
  refine ops_val (ex_fieldAddr fl43_0 rfl) ?_
  refine ops_val (ex_load ty3 rfl (H1.cell (i := 0) rfl rfl)) ?_
  refine ops_call_test (ex_call gf66 rfl) (group16 _ _) (fun hp5 w2 Hd => ?_) (fun hp5 w2 Hd => ?_)
  · have H2 := H1.callN Hd
    refine ops_val (ex_move rfl) ?_
    refine nO16 ?_
    refine ops_yes rfl ?_
    refine ops_val (ex_fieldAddr fl43_1 rfl) ?_
    refine ops_yes rfl ?_
    refine ops_val (ex_load ty9 rfl (H2.cell (i := 0) rfl rfl)) ?_
    refine nO16 ?_
    refine ops_yes rfl ?_
    refine ops_call_test (ex_call gf67 rfl) (key15 _ _) (fun hp9 w3 Hd => ?_) (fun hp9 w3 Hd => ?_)
    · have H3 := H2.callN Hd
      refine ops_val (ex_pick_t rfl rfl) ?_
      refine ops_val (ex_move rfl) ?_
      refine nO16 ?_
      refine ops_yes rfl ?_
      refine ops_val (ex_fieldAddr fl43_2 rfl) ?_
      refine ops_yes rfl ?_
      refine ops_val (ex_load ty3 rfl (H3.cell (i := 0) rfl rfl)) ?_
      refine nO16 ?_
      refine ops_yes rfl ?_
      refine ops_test (ex_geq rfl rfl) (fun hp14 => ?_) (fun hp14 => ?_)
      · skip
        refine ops_val (ex_pick_t rfl rfl) ?_
        refine ops_val (ex_assign rfl) ?_
        refine ops_nil ?_
        refine nR16 ?_
        refine run_ret ?_
        refine fin_ret1 rfl rfl ?_
        exact ⟨bt (by omega), H3.noRows⟩
      · skip
        refine ops_val (ex_pick_t rfl rfl) ?_
        refine ops_val (ex_assign rfl) ?_
        refine ops_nil ?_
        refine nR16 ?_
        refine run_ret ?_
        refine fin_ret1 rfl rfl ?_
        exact ⟨bf (by omega), H3.noRows⟩
    · have H3 := H2.callN Hd
      refine ops_val (ex_pick_t rfl rfl) ?_
      refine ops_val (ex_move rfl) ?_
      refine nO16 ?_
      refine ops_no rfl ?_
      refine ops_no rfl ?_
      refine nO16 ?_
      refine ops_no rfl ?_
      refine ops_val (ex_pick_f rfl rfl) ?_
      refine ops_val (ex_assign rfl) ?_
      refine ops_nil ?_
      refine nR16 ?_
      refine run_ret ?_
      refine fin_ret1 rfl rfl ?_
      exact ⟨bf (by omega), H3.noRows⟩
  · have H2 := H1.callN Hd
    refine ops_val (ex_move rfl) ?_
    refine nO16 ?_
    refine ops_no rfl ?_
    refine ops_no rfl ?_
    refine nO16 ?_
    refine ops_no rfl ?_
    refine ops_val (ex_pick_f rfl rfl) ?_
    refine ops_val (ex_move rfl) ?_
    refine nO16 ?_
    refine ops_no rfl ?_
    refine ops_no rfl ?_
    refine nO16 ?_
    refine ops_no rfl ?_
    refine ops_val (ex_pick_f rfl rfl) ?_
    refine ops_val (ex_assign rfl) ?_
    refine ops_nil ?_
    refine nR16 ?_
    refine run_ret ?_
    refine fin_ret1 rfl rfl ?_
    exact ⟨bf (by omega), H2.noRows⟩
set_option maxRecDepth 100000 in
set_option maxHeartbeats 4000000 in
theorem below16 (a b : Rt) (w0 : World) :
    Does Tryz.prog 40 #[.agg [.int .i64 a.g, strV a.key, .int .i64 a.lease, .int .i64 a.net].toArray, .agg [.int .i64 b.g, strV b.key, .int .i64 b.lease, .int .i64 b.net].toArray] w0 (fun r w' => r = .bool (decide (ltR a b = true)) ∧ Hp w0 w' [] []) := by
  refine does_of Tryz.func40 Tryz.ntmps40 rfl ?_
  refine nR24 ?_
  have H := Hp.refl w0
  refine run_seq ?_
  refine run_region ?_
  refine ops_box rfl rfl H ?_
  intro w1 g1 H1 hg1
  refine ops_box rfl rfl H1 ?_
  intro w2 g2 H2 hg2
  refine ops_val (ex_assign rfl) ?_
  refine ops_nil ?_
  refine nR24 ?_
  refine run_seq ?_
  refine run_region ?_
  refine ops_val (ex_fieldAddr fl43_0 rfl) ?_
  refine ops_val (ex_load ty3 rfl (H2.cell (i := 0) rfl rfl)) ?_
  refine ops_val (ex_fieldAddr fl43_0 rfl) ?_
  refine ops_val (ex_load ty3 rfl (H2.cell (i := 1) rfl rfl)) ?_
  refine nO24 ?_
  refine ops_test (ex_lss rfl rfl) (fun hp9 => ?_) (fun hp9 => ?_)
  · skip
    refine ops_val (ex_move rfl) ?_
    refine ops_no rfl ?_
    refine nO24 ?_
    refine ops_no rfl ?_
    refine ops_no rfl ?_
    refine nO24 ?_
    refine ops_no rfl ?_
    refine ops_no rfl ?_
    refine nO24 ?_
    refine ops_no rfl ?_
    refine ops_no rfl ?_
    refine nO24 ?_
    refine ops_no rfl ?_
    refine ops_no rfl ?_
    refine nO24 ?_
    refine ops_no rfl ?_
    refine ops_no rfl ?_
    refine nO24 ?_
    refine ops_no rfl ?_
    refine ops_val (ex_pick_t rfl rfl) ?_
    refine ops_val (ex_assign rfl) ?_
    refine ops_nil ?_
    refine nR24 ?_
    refine run_ret ?_
    refine fin_ret1 rfl rfl ?_
    exact ⟨bt (by simp_all [ltR]), H2.noRows⟩
  · skip
    refine ops_val (ex_move rfl) ?_
    refine ops_yes rfl ?_
    refine ops_val (ex_fieldAddr fl43_0 rfl) ?_
    refine nO24 ?_
    refine ops_yes rfl ?_
    refine ops_val (ex_load ty3 rfl (H2.cell (i := 0) rfl rfl)) ?_
    refine ops_yes rfl ?_
    refine ops_val (ex_fieldAddr fl43_0 rfl) ?_
    refine nO24 ?_
    refine ops_yes rfl ?_
    refine ops_val (ex_load ty3 rfl (H2.cell (i := 1) rfl rfl)) ?_
    refine ops_yes rfl ?_
    refine ops_test (ex_eql rfl rfl) (fun hp15 => ?_) (fun hp15 => ?_)
    · skip
      refine ops_yes rfl ?_
      refine ops_val (ex_move rfl) ?_
      refine nO24 ?_
      refine ops_yes rfl ?_
      refine ops_val (ex_fieldAddr fl43_1 rfl) ?_
      refine ops_yes rfl ?_
      refine ops_val (ex_load ty9 rfl (H2.cell (i := 0) rfl rfl)) ?_
      refine nO24 ?_
      refine ops_yes rfl ?_
      refine ops_val (ex_fieldAddr fl43_1 rfl) ?_
      refine ops_yes rfl ?_
      refine ops_val (ex_load ty9 rfl (H2.cell (i := 1) rfl rfl)) ?_
      refine nO24 ?_
      refine ops_yes rfl ?_
      refine ops_test (ex_lss_str rfl rfl) (fun hp21 => ?_) (fun hp21 => ?_)
      · skip
        refine ops_yes rfl ?_
        refine ops_val (ex_pick_t rfl rfl) ?_
        refine ops_val (ex_pick_f rfl rfl) ?_
        refine ops_val (ex_assign rfl) ?_
        refine ops_nil ?_
        refine nR24 ?_
        refine run_ret ?_
        refine fin_ret1 rfl rfl ?_
        exact ⟨bt (by simp_all [ltR]), H2.noRows⟩
      · skip
        refine ops_yes rfl ?_
        refine ops_val (ex_pick_t rfl rfl) ?_
        refine ops_val (ex_pick_f rfl rfl) ?_
        refine ops_val (ex_assign rfl) ?_
        refine ops_nil ?_
        refine nR24 ?_
        refine run_ret ?_
        refine fin_ret1 rfl rfl ?_
        exact ⟨bf (by simp_all [ltR]), H2.noRows⟩
    · skip
      refine ops_yes rfl ?_
      refine ops_val (ex_move rfl) ?_
      refine nO24 ?_
      refine ops_no rfl ?_
      refine ops_no rfl ?_
      refine nO24 ?_
      refine ops_no rfl ?_
      refine ops_no rfl ?_
      refine nO24 ?_
      refine ops_no rfl ?_
      refine ops_yes rfl ?_
      refine ops_val (ex_pick_f rfl rfl) ?_
      refine ops_val (ex_pick_f rfl rfl) ?_
      refine ops_val (ex_assign rfl) ?_
      refine ops_nil ?_
      refine nR24 ?_
      refine run_ret ?_
      refine fin_ret1 rfl rfl ?_
      exact ⟨bf (by simp_all [ltR]), H2.noRows⟩
end Go.Proofs.YtbninklfoogmdaaGreat
