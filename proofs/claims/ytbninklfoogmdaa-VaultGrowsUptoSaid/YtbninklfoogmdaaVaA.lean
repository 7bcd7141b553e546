/- Walks of layer 2, printed by wip/gen/codec.py. -/
import Derived.Test.YtbninklfoogmdaaNrm
import Derived.Test.YtbninklfoogmdaaVk
import Derived.Test.YtbninklfoogmdaaCodecA
import Derived.Test.YtbninklfoogmdaaMit
namespace Go.Proofs.Ytbninklfoogmdaa
open Go Go.RowKit
set_option linter.unusedVariables false
attribute [local irreducible] Still Ops Does Cd
theorem pl34 : placesOf Try.prog 34 = some [(0, 1), (1, 1)] := by kernel_rfl
theorem pl41 : placesOf Try.prog 41 = some [(0, 1), (1, 2), (3, 1)] := by kernel_rfl
theorem pl44 : placesOf Try.prog 44 = some [(0, 1), (1, 1)] := by kernel_rfl
theorem pl46 : placesOf Try.prog 46 = some [(0, 1), (1, 1), (2, 1), (3, 1)] := by kernel_rfl
theorem pl62 : placesOf Try.prog 62 = some [(0, 1), (1, 1), (2, 1), (3, 4)] := by kernel_rfl
theorem pl60 : placesOf Try.prog 60 = some [(0, 1), (1, 1), (2, 1), (3, 1)] := by kernel_rfl
theorem pl39 : placesOf Try.prog 39 = some [(0, 2), (2, 1), (3, 1), (4, 1), (5, 1)] := by kernel_rfl
theorem pl28 : placesOf Try.prog 28 = some [(0, 1), (1, 1), (2, 1)] := by kernel_rfl
theorem pl48 : placesOf Try.prog 48 = some [(0, 1), (1, 1), (2, 2), (4, 4), (8, 2), (10, 4), (14, 1), (15, 1)] := by kernel_rfl
theorem pl113 : placesOf Try.prog 113 = some [(0, 2), (2, 1), (3, 1)] := by kernel_rfl
set_option maxRecDepth 100000 in
set_option maxHeartbeats 4000000 in
theorem known_b (n : Int) (w0 : World) :
    Does Try.prog 60 #[.int .i64 n] w0 (fun r w' => r = .bool (decide (1 ≤ n ∧ n ≤ 5)) ∧ Hp w0 w' [] []) := by
  refine does_of Try.func60 Try.ntmps60 rfl ?_
  change Run _ _ _ _ [.int .i64 n, undef, undef, undef, undef, undef, undef, undef, undef] _
  have H := Hp.refl w0
  refine run_seq ?_
  refine run_region ?_
  refine ops_val (ex_assign rfl) ?_
  refine ops_nil ?_
  change Run _ _ _ _ [_, _, _, _, _, _, _, _, _] _
  refine run_seq ?_
  refine run_region ?_
  refine ops_val (ex_move rfl) ?_
  refine ops_test (ex_geq rfl rfl) (fun hp4 => ?_) (fun hp4 => ?_)
  · skip
    refine ops_val (ex_move rfl) ?_
    change Ops _ _ _ _ _ _ [_, _, _, _, _, _, _, _, _] _
    refine ops_yes rfl ?_
    refine ops_val (ex_move rfl) ?_
    refine ops_yes rfl ?_
    refine ops_test (ex_leq rfl rfl) (fun hp7 => ?_) (fun hp7 => ?_)
    · skip
      refine ops_val (ex_pick_t rfl rfl) ?_
      refine ops_val (ex_assign rfl) ?_
      refine ops_nil ?_
      change Run _ _ _ _ [_, _, _, _, _, _, _, _, _] _
      refine run_ret ?_
      refine fin_ret1 rfl rfl ?_
      exact ⟨bt (by omega), H.noRows⟩
    · skip
      refine ops_val (ex_pick_t rfl rfl) ?_
      refine ops_val (ex_assign rfl) ?_
      refine ops_nil ?_
      change Run _ _ _ _ [_, _, _, _, _, _, _, _, _] _
      refine run_ret ?_
      refine fin_ret1 rfl rfl ?_
      exact ⟨bf (by omega), H.noRows⟩
  · skip
    refine ops_val (ex_move rfl) ?_
    change Ops _ _ _ _ _ _ [_, _, _, _, _, _, _, _, _] _
    refine ops_no rfl ?_
    refine ops_no rfl ?_
    refine ops_val (ex_pick_f rfl rfl) ?_
    refine ops_val (ex_assign rfl) ?_
    refine ops_nil ?_
    change Run _ _ _ _ [_, _, _, _, _, _, _, _, _] _
    refine run_ret ?_
    refine fin_ret1 rfl rfl ?_
    exact ⟨bf (by omega), H.noRows⟩
set_option maxRecDepth 100000 in
set_option maxHeartbeats 4000000 in
theorem group_l (n : Int) (w0 : World) :
    Does Try.prog 48 #[.int .i64 n] w0 (fun r w' => r = .bool (decide (1 ≤ n ∧ n < 8)) ∧ Hp w0 w' [] []) := by
  refine does_of Try.func48 Try.ntmps48 rfl ?_
  change Run _ _ _ _ [.int .i64 n, undef, undef, undef, undef, undef, undef, undef, undef] _
  have H := Hp.refl w0
  refine run_seq ?_
  refine run_region ?_
  refine ops_val (ex_assign rfl) ?_
  refine ops_nil ?_
  change Run _ _ _ _ [_, _, _, _, _, _, _, _, _] _
  refine run_seq ?_
  refine run_region ?_
  refine ops_val (ex_move rfl) ?_
  refine ops_test (ex_geq rfl rfl) (fun hp4 => ?_) (fun hp4 => ?_)
  · skip
    refine ops_val (ex_move rfl) ?_
    change Ops _ _ _ _ _ _ [_, _, _, _, _, _, _, _, _] _
    refine ops_yes rfl ?_
    refine ops_val (ex_move rfl) ?_
    refine ops_yes rfl ?_
    refine ops_test (ex_lss rfl rfl) (fun hp7 => ?_) (fun hp7 => ?_)
    · skip
      refine ops_val (ex_pick_t rfl rfl) ?_
      refine ops_val (ex_assign rfl) ?_
      refine ops_nil ?_
      change Run _ _ _ _ [_, _, _, _, _, _, _, _, _] _
      refine run_ret ?_
      refine fin_ret1 rfl rfl ?_
      exact ⟨bt (by omega), H.noRows⟩
    · skip
      refine ops_val (ex_pick_t rfl rfl) ?_
      refine ops_val (ex_assign rfl) ?_
      refine ops_nil ?_
      change Run _ _ _ _ [_, _, _, _, _, _, _, _, _] _
      refine run_ret ?_
      refine fin_ret1 rfl rfl ?_
      exact ⟨bf (by omega), H.noRows⟩
  · skip
    refine ops_val (ex_move rfl) ?_
    change Ops _ _ _ _ _ _ [_, _, _, _, _, _, _, _, _] _
    refine ops_no rfl ?_
    refine ops_no rfl ?_
    refine ops_val (ex_pick_f rfl rfl) ?_
    refine ops_val (ex_assign rfl) ?_
    refine ops_nil ?_
    change Run _ _ _ _ [_, _, _, _, _, _, _, _, _] _
    refine run_ret ?_
    refine fin_ret1 rfl rfl ?_
    exact ⟨bf (by omega), H.noRows⟩
set_option maxRecDepth 100000 in
set_option maxHeartbeats 4000000 in
theorem less_b (a b : Bal) (w0 : World) :
    Does Try.prog 35 #[.agg [.int .i64 a.r, .int .i64 a.n].toArray, .agg [.int .i64 b.r, .int .i64 b.n].toArray] w0 (fun r w' => r = .bool (decide (Bal.lt a b)) ∧ Hp w0 w' [] []) := by
  refine does_of Try.func35 Try.ntmps35 rfl ?_
  refine nR24 ?_
  have H := Hp.refl w0
  refine run_seq ?_
  refine run_region ?_
  refine ops_box rfl rfl H ?_
  intro w1 g1 H1 hg1
  refine ops_box rfl rfl H1 ?_
  intro w2 g2 H2 hg2
  refine ops_val (ex_assign rfl) ?_
  refine ops_nil ?_
  refine nR24 ?_
  refine run_seq ?_
  refine run_region ?_
  refine ops_val (ex_fieldAddr fl34_0 rfl) ?_
  refine ops_val (ex_load ty3 rfl (H2.cell (i := 0) rfl rfl)) ?_
  refine ops_val (ex_fieldAddr fl34_0 rfl) ?_
  refine ops_val (ex_load ty3 rfl (H2.cell (i := 1) rfl rfl)) ?_
  refine nO24 ?_
  refine ops_test (ex_lss rfl rfl) (fun hp9 => ?_) (fun hp9 => ?_)
  · skip
    refine ops_val (ex_move rfl) ?_
    refine ops_no rfl ?_
    refine nO24 ?_
    refine ops_no rfl ?_
    refine ops_no rfl ?_
    refine nO24 ?_
    refine ops_no rfl ?_
    refine ops_no rfl ?_
    refine nO24 ?_
    refine ops_no rfl ?_
    refine ops_no rfl ?_
    refine nO24 ?_
    refine ops_no rfl ?_
    refine ops_no rfl ?_
    refine nO24 ?_
    refine ops_no rfl ?_
    refine ops_no rfl ?_
    refine nO24 ?_
    refine ops_no rfl ?_
    refine ops_val (ex_pick_t rfl rfl) ?_
    refine ops_val (ex_assign rfl) ?_
    refine ops_nil ?_
    refine nR24 ?_
    refine run_ret ?_
    refine fin_ret1 rfl rfl ?_
    exact ⟨bt (by omega), H2.noRows⟩
  · skip
    refine ops_val (ex_move rfl) ?_
    refine ops_yes rfl ?_
    refine ops_val (ex_fieldAddr fl34_0 rfl) ?_
    refine nO24 ?_
    refine ops_yes rfl ?_
    refine ops_val (ex_load ty3 rfl (H2.cell (i := 0) rfl rfl)) ?_
    refine ops_yes rfl ?_
    refine ops_val (ex_fieldAddr fl34_0 rfl) ?_
    refine nO24 ?_
    refine ops_yes rfl ?_
    refine ops_val (ex_load ty3 rfl (H2.cell (i := 1) rfl rfl)) ?_
    refine ops_yes rfl ?_
    refine ops_test (ex_eql rfl rfl) (fun hp15 => ?_) (fun hp15 => ?_)
    · skip
      refine ops_yes rfl ?_
      refine ops_val (ex_move rfl) ?_
      refine nO24 ?_
      refine ops_yes rfl ?_
      refine ops_val (ex_fieldAddr fl34_1 rfl) ?_
      refine ops_yes rfl ?_
      refine ops_val (ex_load ty3 rfl (H2.cell (i := 0) rfl rfl)) ?_
      refine nO24 ?_
      refine ops_yes rfl ?_
      refine ops_val (ex_fieldAddr fl34_1 rfl) ?_
      refine ops_yes rfl ?_
      refine ops_val (ex_load ty3 rfl (H2.cell (i := 1) rfl rfl)) ?_
      refine nO24 ?_
      refine ops_yes rfl ?_
      refine ops_test (ex_lss rfl rfl) (fun hp21 => ?_) (fun hp21 => ?_)
      · skip
        refine ops_yes rfl ?_
        refine ops_val (ex_pick_t rfl rfl) ?_
        refine ops_val (ex_pick_f rfl rfl) ?_
        refine ops_val (ex_assign rfl) ?_
        refine ops_nil ?_
        refine nR24 ?_
        refine run_ret ?_
        refine fin_ret1 rfl rfl ?_
        exact ⟨bt (by omega), H2.noRows⟩
      · skip
        refine ops_yes rfl ?_
        refine ops_val (ex_pick_t rfl rfl) ?_
        refine ops_val (ex_pick_f rfl rfl) ?_
        refine ops_val (ex_assign rfl) ?_
        refine ops_nil ?_
        refine nR24 ?_
        refine run_ret ?_
        refine fin_ret1 rfl rfl ?_
        exact ⟨bf (by omega), H2.noRows⟩
    · skip
      refine ops_yes rfl ?_
      refine ops_val (ex_move rfl) ?_
      refine nO24 ?_
      refine ops_no rfl ?_
      refine ops_no rfl ?_
      refine nO24 ?_
      refine ops_no rfl ?_
      refine ops_no rfl ?_
      refine nO24 ?_
      refine ops_no rfl ?_
      refine ops_yes rfl ?_
      refine ops_val (ex_pick_f rfl rfl) ?_
      refine ops_val (ex_pick_f rfl rfl) ?_
      refine ops_val (ex_assign rfl) ?_
      refine ops_nil ?_
      refine nR24 ?_
      refine run_ret ?_
      refine fin_ret1 rfl rfl ?_
      exact ⟨bf (by omega), H2.noRows⟩
set_option maxRecDepth 100000 in
set_option maxHeartbeats 4000000 in
theorem may_b (a : Bal) (n : Int) (w0 : World) :
    Does Try.prog 46 #[.agg [.int .i64 a.r, .int .i64 a.n].toArray, .int .i64 n] w0 (fun r w' => r = .bool (decide (1 ≤ n ∧ n ≤ 5 ∧ 1 ≤ a.r ∧ 1 ≤ a.n ∧ a.n ≤ n)) ∧ Hp w0 w' [] []) := by
  refine does_of Try.func46 Try.ntmps46 rfl ?_
  refine nR23 ?_
  have H := Hp.refl w0
  refine run_seq ?_
  refine run_region ?_
  refine ops_box rfl rfl H ?_
  intro w1 g1 H1 hg1
  refine ops_val (ex_assign rfl) ?_
  refine ops_nil ?_
  refine nR23 ?_
  refine run_seq ?_
  refine run_region ?_
  refine ops_val (ex_move rfl) ?_
  refine ops_call_test (ex_call gf60 rfl) (known_b _ _) (fun hp6 w2 Hd => ?_) (fun hp6 w2 Hd => ?_)
  · have H2 := H1.callN Hd
    refine ops_val (ex_move rfl) ?_
    refine nO23 ?_
    refine ops_yes rfl ?_
    refine ops_val (ex_fieldAddr fl34_0 rfl) ?_
    refine ops_yes rfl ?_
    refine ops_val (ex_load ty3 rfl (H2.cell (i := 0) rfl rfl)) ?_
    refine nO23 ?_
    refine ops_yes rfl ?_
    refine ops_test (ex_geq rfl rfl) (fun hp10 => ?_) (fun hp10 => ?_)
    · skip
      refine ops_val (ex_pick_t rfl rfl) ?_
      refine ops_val (ex_move rfl) ?_
      refine nO23 ?_
      refine ops_yes rfl ?_
      refine ops_val (ex_fieldAddr fl34_1 rfl) ?_
      refine ops_yes rfl ?_
      refine ops_val (ex_load ty3 rfl (H2.cell (i := 0) rfl rfl)) ?_
      refine nO23 ?_
      refine ops_yes rfl ?_
      refine ops_test (ex_geq rfl rfl) (fun hp15 => ?_) (fun hp15 => ?_)
      · skip
        refine ops_val (ex_pick_t rfl rfl) ?_
        refine ops_val (ex_move rfl) ?_
        refine nO23 ?_
        refine ops_yes rfl ?_
        refine ops_val (ex_fieldAddr fl34_1 rfl) ?_
        refine ops_yes rfl ?_
        refine ops_val (ex_load ty3 rfl (H2.cell (i := 0) rfl rfl)) ?_
        refine nO23 ?_
        refine ops_yes rfl ?_
        refine ops_val (ex_move rfl) ?_
        refine ops_yes rfl ?_
        refine ops_test (ex_leq rfl rfl) (fun hp21 => ?_) (fun hp21 => ?_)
        · skip
          refine ops_val (ex_pick_t rfl rfl) ?_
          refine ops_val (ex_assign rfl) ?_
          refine ops_nil ?_
          refine nR23 ?_
          refine run_ret ?_
          refine fin_ret1 rfl rfl ?_
          exact ⟨bt (by omega), H2.noRows⟩
        · skip
          refine ops_val (ex_pick_t rfl rfl) ?_
          refine ops_val (ex_assign rfl) ?_
          refine ops_nil ?_
          refine nR23 ?_
          refine run_ret ?_
          refine fin_ret1 rfl rfl ?_
          exact ⟨bf (by omega), H2.noRows⟩
      · skip
        refine ops_val (ex_pick_t rfl rfl) ?_
        refine ops_val (ex_move rfl) ?_
        refine nO23 ?_
        refine ops_no rfl ?_
        refine ops_no rfl ?_
        refine nO23 ?_
        refine ops_no rfl ?_
        refine ops_no rfl ?_
        refine ops_val (ex_pick_f rfl rfl) ?_
        refine ops_val (ex_assign rfl) ?_
        refine ops_nil ?_
        refine nR23 ?_
        refine run_ret ?_
        refine fin_ret1 rfl rfl ?_
        exact ⟨bf (by omega), H2.noRows⟩
    · skip
      refine ops_val (ex_pick_t rfl rfl) ?_
      refine ops_val (ex_move rfl) ?_
      refine nO23 ?_
      refine ops_no rfl ?_
      refine ops_no rfl ?_
      refine nO23 ?_
      refine ops_no rfl ?_
      refine ops_val (ex_pick_f rfl rfl) ?_
      refine ops_val (ex_move rfl) ?_
      refine nO23 ?_
      refine ops_no rfl ?_
      refine ops_no rfl ?_
      refine nO23 ?_
      refine ops_no rfl ?_
      refine ops_no rfl ?_
      refine ops_val (ex_pick_f rfl rfl) ?_
      refine ops_val (ex_assign rfl) ?_
      refine ops_nil ?_
      refine nR23 ?_
      refine run_ret ?_
      refine fin_ret1 rfl rfl ?_
      exact ⟨bf (by omega), H2.noRows⟩
  · have H2 := H1.callN Hd
    refine ops_val (ex_move rfl) ?_
    refine nO23 ?_
    refine ops_no rfl ?_
    refine ops_no rfl ?_
    refine nO23 ?_
    refine ops_no rfl ?_
    refine ops_val (ex_pick_f rfl rfl) ?_
    refine ops_val (ex_move rfl) ?_
    refine nO23 ?_
    refine ops_no rfl ?_
    refine ops_no rfl ?_
    refine nO23 ?_
    refine ops_no rfl ?_
    refine ops_val (ex_pick_f rfl rfl) ?_
    refine ops_val (ex_move rfl) ?_
    refine nO23 ?_
    refine ops_no rfl ?_
    refine ops_no rfl ?_
    refine nO23 ?_
    refine ops_no rfl ?_
    refine ops_no rfl ?_
    refine ops_val (ex_pick_f rfl rfl) ?_
    refine ops_val (ex_assign rfl) ?_
    refine ops_nil ?_
    refine nR23 ?_
    refine run_ret ?_
    refine fin_ret1 rfl rfl ?_
    exact ⟨bf (by omega), H2.noRows⟩
set_option maxRecDepth 100000 in
set_option maxHeartbeats 4000000 in
theorem real_a (a : Bal) (w0 : World) :
    Does Try.prog 61 #[.agg [.int .i64 a.r, .int .i64 a.n].toArray] w0 (fun r w' => r = .bool (decide (1 ≤ a.r ∧ 1 ≤ a.n)) ∧ Hp w0 w' [] []) := by
  refine does_of Try.func61 Try.ntmps61 rfl ?_
  change Run _ _ _ _ [.agg [.int .i64 a.r, .int .i64 a.n].toArray, undef, undef, undef, undef, undef, undef, undef, undef, undef, undef] _
  have H := Hp.refl w0
  refine run_seq ?_
  refine run_region ?_
  refine ops_box rfl rfl H ?_
  intro w1 g1 H1 hg1
  refine ops_val (ex_assign rfl) ?_
  refine ops_nil ?_
  change Run _ _ _ _ [_, _, _, _, _, _, _, _, _, _, _] _
  refine run_seq ?_
  refine run_region ?_
  refine ops_val (ex_fieldAddr fl34_0 rfl) ?_
  refine ops_val (ex_load ty3 rfl (H1.cell (i := 0) rfl rfl)) ?_
  refine ops_test (ex_geq rfl rfl) (fun hp5 => ?_) (fun hp5 => ?_)
  · skip
    refine ops_val (ex_move rfl) ?_
    change Ops _ _ _ _ _ _ [_, _, _, _, _, _, _, _, _, _, _] _
    refine ops_yes rfl ?_
    refine ops_val (ex_fieldAddr fl34_1 rfl) ?_
    refine ops_yes rfl ?_
    refine ops_val (ex_load ty3 rfl (H1.cell (i := 0) rfl rfl)) ?_
    change Ops _ _ _ _ _ _ [_, _, _, _, _, _, _, _, _, _, _] _
    refine ops_yes rfl ?_
    refine ops_test (ex_geq rfl rfl) (fun hp9 => ?_) (fun hp9 => ?_)
    · skip
      refine ops_val (ex_pick_t rfl rfl) ?_
      refine ops_val (ex_assign rfl) ?_
      refine ops_nil ?_
      change Run _ _ _ _ [_, _, _, _, _, _, _, _, _, _, _] _
      refine run_ret ?_
      refine fin_ret1 rfl rfl ?_
      exact ⟨bt (by omega), H1.noRows⟩
    · skip
      refine ops_val (ex_pick_t rfl rfl) ?_
      refine ops_val (ex_assign rfl) ?_
      refine ops_nil ?_
      change Run _ _ _ _ [_, _, _, _, _, _, _, _, _, _, _] _
      refine run_ret ?_
      refine fin_ret1 rfl rfl ?_
      exact ⟨bf (by omega), H1.noRows⟩
  · skip
    refine ops_val (ex_move rfl) ?_
    change Ops _ _ _ _ _ _ [_, _, _, _, _, _, _, _, _, _, _] _
    refine ops_no rfl ?_
    refine ops_no rfl ?_
    change Ops _ _ _ _ _ _ [_, _, _, _, _, _, _, _, _, _, _] _
    refine ops_no rfl ?_
    refine ops_val (ex_pick_f rfl rfl) ?_
    refine ops_val (ex_assign rfl) ?_
    refine ops_nil ?_
    change Run _ _ _ _ [_, _, _, _, _, _, _, _, _, _, _] _
    refine run_ret ?_
    refine fin_ret1 rfl rfl ?_
    exact ⟨bf (by omega), H1.noRows⟩
set_option maxRecDepth 100000 in
set_option maxHeartbeats 4000000 in
theorem may_l (a : Rt) (w0 : World) :
    Does Try.prog 25 #[.agg [.int .i64 a.g, strV a.key, .int .i64 a.lease, .int .i64 a.net].toArray] w0 (fun r w' => r = .bool (decide (mayR a)) ∧ Hp w0 w' [] []) := by
  refine does_of Try.func25 Try.ntmps25 rfl ?_
  refine nR23 ?_
  have H := Hp.refl w0
  refine run_seq ?_
  refine run_region ?_
  refine ops_box rfl rfl H ?_
  intro w1 g1 H1 hg1
  refine ops_val (ex_assign rfl) ?_
  refine ops_nil ?_
  refine nR23 ?_
  refine run_seq ?_
  refine run_region ?_
  refine ops_val (ex_fieldAddr fl46_0 rfl) ?_
  refine ops_val (ex_load ty3 rfl (H1.cell (i := 0) rfl rfl)) ?_
  refine ops_call_test (ex_call gf48 rfl) (group_l _ _) (fun hp5 w2 Hd => ?_) (fun hp5 w2 Hd => ?_)
  · have H2 := H1.callN Hd
    refine ops_val (ex_move rfl) ?_
    refine nO23 ?_
    refine ops_yes rfl ?_
    refine ops_val (ex_fieldAddr fl46_1 rfl) ?_
    refine ops_yes rfl ?_
    refine ops_val (ex_load ty9 rfl (H2.cell (i := 0) rfl rfl)) ?_
    refine nO23 ?_
    refine ops_yes rfl ?_
    refine ops_val (ex_len_strV Try.underlying9 rfl) ?_
    refine ops_yes rfl ?_
    refine ops_test (ex_geq rfl rfl) (fun hp10 => ?_) (fun hp10 => ?_)
    · skip
      refine ops_val (ex_pick_t rfl rfl) ?_
      refine ops_val (ex_move rfl) ?_
      refine nO23 ?_
      refine ops_yes rfl ?_
      refine ops_val (ex_fieldAddr fl46_1 rfl) ?_
      refine ops_yes rfl ?_
      refine ops_val (ex_load ty9 rfl (H2.cell (i := 0) rfl rfl)) ?_
      refine nO23 ?_
      refine ops_yes rfl ?_
      refine ops_val (ex_len_strV Try.underlying9 rfl) ?_
      refine ops_yes rfl ?_
      refine ops_test (ex_leq rfl rfl) (fun hp16 => ?_) (fun hp16 => ?_)
      · skip
        refine ops_val (ex_pick_t rfl rfl) ?_
        refine ops_val (ex_move rfl) ?_
        refine nO23 ?_
        refine ops_yes rfl ?_
        refine ops_val (ex_fieldAddr fl46_2 rfl) ?_
        refine ops_yes rfl ?_
        refine ops_val (ex_load ty3 rfl (H2.cell (i := 0) rfl rfl)) ?_
        refine nO23 ?_
        refine ops_yes rfl ?_
        refine ops_test (ex_geq rfl rfl) (fun hp21 => ?_) (fun hp21 => ?_)
        · skip
          refine ops_val (ex_pick_t rfl rfl) ?_
          refine ops_val (ex_assign rfl) ?_
          refine ops_nil ?_
          refine nR23 ?_
          refine run_ret ?_
          refine fin_ret1 rfl rfl ?_
          exact ⟨bt (by omega), H2.noRows⟩
        · skip
          refine ops_val (ex_pick_t rfl rfl) ?_
          refine ops_val (ex_assign rfl) ?_
          refine ops_nil ?_
          refine nR23 ?_
          refine run_ret ?_
          refine fin_ret1 rfl rfl ?_
          exact ⟨bf (by omega), H2.noRows⟩
      · skip
        refine ops_val (ex_pick_t rfl rfl) ?_
        refine ops_val (ex_move rfl) ?_
        refine nO23 ?_
        refine ops_no rfl ?_
        refine ops_no rfl ?_
        refine nO23 ?_
        refine ops_no rfl ?_
        refine ops_val (ex_pick_f rfl rfl) ?_
        refine ops_val (ex_assign rfl) ?_
        refine ops_nil ?_
        refine nR23 ?_
        refine run_ret ?_
        refine fin_ret1 rfl rfl ?_
        exact ⟨bf (by omega), H2.noRows⟩
    · skip
      refine ops_val (ex_pick_t rfl rfl) ?_
      refine ops_val (ex_move rfl) ?_
      refine nO23 ?_
      refine ops_no rfl ?_
      refine ops_no rfl ?_
      refine nO23 ?_
      refine ops_no rfl ?_
      refine ops_no rfl ?_
      refine ops_val (ex_pick_f rfl rfl) ?_
      refine ops_val (ex_move rfl) ?_
      refine nO23 ?_
      refine ops_no rfl ?_
      refine ops_no rfl ?_
      refine nO23 ?_
      refine ops_no rfl ?_
      refine ops_val (ex_pick_f rfl rfl) ?_
      refine ops_val (ex_assign rfl) ?_
      refine ops_nil ?_
      refine nR23 ?_
      refine run_ret ?_
      refine fin_ret1 rfl rfl ?_
      exact ⟨bf (by omega), H2.noRows⟩
  · have H2 := H1.callN Hd
    refine ops_val (ex_move rfl) ?_
    refine nO23 ?_
    refine ops_no rfl ?_
    refine ops_no rfl ?_
    refine nO23 ?_
    refine ops_no rfl ?_
    refine ops_no rfl ?_
    refine ops_val (ex_pick_f rfl rfl) ?_
    refine ops_val (ex_move rfl) ?_
    refine nO23 ?_
    refine ops_no rfl ?_
    refine ops_no rfl ?_
    refine nO23 ?_
    refine ops_no rfl ?_
    refine ops_no rfl ?_
    refine ops_val (ex_pick_f rfl rfl) ?_
    refine ops_val (ex_move rfl) ?_
    refine nO23 ?_
    refine ops_no rfl ?_
    refine ops_no rfl ?_
    refine nO23 ?_
    refine ops_no rfl ?_
    refine ops_val (ex_pick_f rfl rfl) ?_
    refine ops_val (ex_assign rfl) ?_
    refine ops_nil ?_
    refine nR23 ?_
    refine run_ret ?_
    refine fin_ret1 rfl rfl ?_
    exact ⟨bf (by omega), H2.noRows⟩
end Go.Proofs.Ytbninklfoogmdaa
