/- Walks of layer 2, printed by wip/gen/codec.py. -/
import Derived.Test.YtgkciibfpenjpaaNrm
import Derived.Test.YtgkciibfpenjpaaWst
namespace Go.Proofs.Ytgkciibfpenjpaa
open Go Go.RowKit
set_option linter.unusedVariables false
attribute [local irreducible] Still Ops Does Cd
theorem wq (n : Nat) (h : n ≤ 2 ^ 60) : IntKind.i64.wrap (((n : Int) + 64 - 1).tdiv 64) = (((n + 63) / 64 : Nat) : Int) := by
  rw [show ((n : Int) + 64 - 1) = ((n + 63 : Nat) : Int) by omega, show (((n + 63 : Nat) : Int)).tdiv 64 = (((n + 63) / 64 : Nat) : Int) from rfl]
  exact IntWalk.i64_in _ (by omega)
theorem wq4 (n : Nat) (h : n ≤ 2 ^ 60) : IntKind.i64.wrap ((4 + (n : Int) + 64 - 1).tdiv 64) = ((nbk n : Nat) : Int) := by
  rw [show (4 + (n : Int) + 64 - 1) = ((n + 4 + 63 : Nat) : Int) by omega, show (((n + 4 + 63 : Nat) : Int)).tdiv 64 = (((n + 4 + 63) / 64 : Nat) : Int) from rfl]
  exact IntWalk.i64_in _ (by omega)
set_option maxRecDepth 100000 in
set_option maxHeartbeats 4000000 in
theorem weight_any (n : Nat) (w0 : World) (hn : n ≤ 2 ^ 60) :
    Does Try.prog 31 #[.int .i64 (n : Int)] w0 (fun r w' => r = .int .i64 (wgt n : Int) ∧ w' = w0) := by
  refine does_of Try.func31 Try.ntmps31 rfl ?_
  change Run _ _ _ _ [.int .i64 (n : Int), undef, undef, undef, undef, undef, undef, undef] _
  have H := Hp.refl w0
  refine run_seq ?_
  refine run_region ?_
  refine ops_val (ex_assign rfl) ?_
  refine ops_nil ?_
  change Run _ _ _ _ [_, _, _, _, _, _, _, _] _
  refine run_seq ?_
  refine run_region ?_
  refine ops_val (ex_move rfl) ?_
  refine ops_val (ex_add rfl rfl (IntWalk.i64_in _ (by omega))) ?_
  refine ops_val (ex_sub rfl rfl (IntWalk.i64_in _ (by omega))) ?_
  refine ops_val (ex_quo rfl rfl (by omega) (wq n hn)) ?_
  change Ops _ _ _ _ _ _ [_, _, _, _, _, _, _, _] _
  refine ops_val (ex_add rfl rfl (IntWalk.i64_in _ (by omega))) ?_
  refine ops_val (ex_assign rfl) ?_
  refine ops_nil ?_
  change Run _ _ _ _ [_, _, _, _, _, _, _, _] _
  refine run_ret ?_
  refine fin_ret1 rfl rfl ?_
  exact ⟨by unfold wgt; rfl, rfl⟩
set_option maxRecDepth 100000 in
set_option maxHeartbeats 4000000 in
theorem size_p (gd n c : Nat) (A : Option Addr) (w0 : World) (hc : w0.cell? ⟨gd, 0, none⟩ = some (.slice A n c)) :
    Does Try.prog 32 #[.pointer (some ⟨gd, 0, none⟩)] w0 (fun r w' => r = .int .i64 (n : Int) ∧ w' = w0) := by
  refine does_of Try.func32 Try.ntmps32 rfl ?_
  change Run _ _ _ _ [.pointer (some ⟨gd, 0, none⟩), undef, undef, undef, undef, undef, undef, undef, undef, undef] _
  have H := Hp.refl w0
  refine run_seq ?_
  refine run_region ?_
  refine ops_val (ex_assign rfl) ?_
  refine ops_nil ?_
  change Run _ _ _ _ [_, _, _, _, _, _, _, _, _, _] _
  refine run_seq ?_
  refine run_seq ?_
  refine run_region ?_
  refine ops_val (ex_move rfl) ?_
  refine ops_false (ex_eql_nil_ptr Try.underlying27 rfl) (by simp) ?_
  refine ops_nil ?_
  change Run _ _ _ _ [_, _, _, _, _, _, _, _, _, _] _
  refine run_cond_false rfl ?_
  refine run_skip ?_
  refine run_seq ?_
  refine run_region ?_
  refine ops_val (ex_move rfl) ?_
  refine ops_val (ex_nilCheck rfl) ?_
  refine ops_val (ex_fieldAddr fl90_0 rfl) ?_
  refine ops_val (ex_load ty84 rfl (hc)) ?_
  change Ops _ _ _ _ _ _ [_, _, _, _, _, _, _, _, _, _] _
  refine ops_val (ex_len_slice Try.underlying84 rfl) ?_
  refine ops_val (ex_assign rfl) ?_
  refine ops_nil ?_
  change Run _ _ _ _ [_, _, _, _, _, _, _, _, _, _] _
  refine run_ret ?_
  refine fin_ret1 rfl rfl ?_
  exact ⟨rfl, rfl⟩
set_option maxRecDepth 100000 in
set_option maxHeartbeats 4000000 in
theorem down_p (gd : Nat) (x : Bool) (w0 : World) (hc : w0.cell? ⟨gd, 2, none⟩ = some (.bool x)) :
    Does Try.prog 27 #[.pointer (some ⟨gd, 0, none⟩)] w0 (fun r w' => r = .bool x ∧ w' = w0) := by
  refine does_of Try.func27 Try.ntmps27 rfl ?_
  change Run _ _ _ _ [.pointer (some ⟨gd, 0, none⟩), undef, undef, undef, undef, undef, undef, undef, undef, undef, undef] _
  have H := Hp.refl w0
  refine run_seq ?_
  refine run_region ?_
  refine ops_val (ex_assign rfl) ?_
  refine ops_nil ?_
  change Run _ _ _ _ [_, _, _, _, _, _, _, _, _, _, _] _
  refine run_seq ?_
  refine run_region ?_
  refine ops_val (ex_move rfl) ?_
  refine ops_true (ex_neq_nil_ptr Try.underlying27 rfl) (by simp) ?_
  refine ops_val (ex_move rfl) ?_
  change Ops _ _ _ _ _ _ [_, _, _, _, _, _, _, _, _, _, _] _
  refine ops_yes rfl ?_
  refine ops_val (ex_move rfl) ?_
  refine ops_yes rfl ?_
  refine ops_val (ex_nilCheck rfl) ?_
  change Ops _ _ _ _ _ _ [_, _, _, _, _, _, _, _, _, _, _] _
  refine ops_yes rfl ?_
  refine ops_val (ex_fieldAddr fl90_2 rfl) ?_
  refine ops_yes rfl ?_
  refine ops_val (ex_load ty4 rfl (hc)) ?_
  refine ops_val (ex_pick_t rfl rfl) ?_
  refine ops_val (ex_assign rfl) ?_
  refine ops_nil ?_
  change Run _ _ _ _ [_, _, _, _, _, _, _, _, _, _, _] _
  refine run_ret ?_
  refine fin_ret1 rfl rfl ?_
  exact ⟨rfl, rfl⟩
set_option maxRecDepth 100000 in
set_option maxHeartbeats 4000000 in
theorem first_p (gv : Nat) (n : Int) (w0 : World) (hc : w0.cell? ⟨gv, 3, none⟩ = some (.int .i64 n)) :
    Does Try.prog 19 #[.pointer (some ⟨gv, 0, none⟩)] w0 (fun r w' => r = .int .i64 n ∧ w' = w0) := by
  refine does_of Try.func19 Try.ntmps19 rfl ?_
  change Run _ _ _ _ [.pointer (some ⟨gv, 0, none⟩), undef, undef, undef, undef, undef, undef, undef, undef] _
  have H := Hp.refl w0
  refine run_seq ?_
  refine run_region ?_
  refine ops_val (ex_assign rfl) ?_
  refine ops_nil ?_
  change Run _ _ _ _ [_, _, _, _, _, _, _, _, _] _
  refine run_seq ?_
  refine run_seq ?_
  refine run_region ?_
  refine ops_val (ex_move rfl) ?_
  refine ops_false (ex_eql_nil_ptr Try.underlying28 rfl) (by simp) ?_
  refine ops_nil ?_
  change Run _ _ _ _ [_, _, _, _, _, _, _, _, _] _
  refine run_cond_false rfl ?_
  refine run_skip ?_
  refine run_seq ?_
  refine run_region ?_
  refine ops_val (ex_move rfl) ?_
  refine ops_val (ex_nilCheck rfl) ?_
  refine ops_val (ex_fieldAddr fl58_3 rfl) ?_
  refine ops_val (ex_load ty3 rfl (hc)) ?_
  change Ops _ _ _ _ _ _ [_, _, _, _, _, _, _, _, _] _
  refine ops_val (ex_assign rfl) ?_
  refine ops_nil ?_
  change Run _ _ _ _ [_, _, _, _, _, _, _, _, _] _
  refine run_ret ?_
  refine fin_ret1 rfl rfl ?_
  exact ⟨rfl, rfl⟩
set_option maxRecDepth 100000 in
set_option maxHeartbeats 4000000 in
theorem ring_p (gv gd n c : Nat) (A : Option Addr) (w0 : World) (hc : w0.cell? ⟨gv, 0, none⟩ = some (.pointer (some ⟨gd, 0, none⟩))) (hd : w0.cell? ⟨gd, 0, none⟩ = some (.slice A n c)) (hn : n ≤ 16384) :
    Does Try.prog 38 #[.pointer (some ⟨gv, 0, none⟩)] w0 (fun r w' => r = .int .i64 ((n : Int) - 2) ∧ w' = w0) := by
  refine does_of Try.func38 Try.ntmps38 rfl ?_
  change Run _ _ _ _ [.pointer (some ⟨gv, 0, none⟩), undef, undef, undef, undef, undef, undef, undef, undef] _
  have H := Hp.refl w0
  refine run_seq ?_
  refine run_region ?_
  refine ops_val (ex_assign rfl) ?_
  refine ops_nil ?_
  change Run _ _ _ _ [_, _, _, _, _, _, _, _, _] _
  refine run_seq ?_
  refine run_region ?_
  refine ops_val (ex_move rfl) ?_
  refine ops_val (ex_nilCheck rfl) ?_
  refine ops_val (ex_fieldAddr fl58_0 rfl) ?_
  refine ops_val (ex_load ty27 rfl (hc)) ?_
  change Ops _ _ _ _ _ _ [_, _, _, _, _, _, _, _, _] _
  refine ops_call_eq (ex_call gf32 rfl) (size_p gd n c A _ hd) ?_
  refine ops_val (ex_sub rfl rfl (IntWalk.i64_in _ (by omega))) ?_
  refine ops_val (ex_assign rfl) ?_
  refine ops_nil ?_
  change Run _ _ _ _ [_, _, _, _, _, _, _, _, _] _
  refine run_ret ?_
  refine fin_ret1 rfl rfl ?_
  exact ⟨rfl, rfl⟩
set_option maxRecDepth 100000 in
set_option maxHeartbeats 4000000 in
theorem first_nil (w0 : World) :
    Does Try.prog 19 #[.pointer none] w0 (fun r w' => r = .int .i64 0 ∧ w' = w0) := by
  refine does_of Try.func19 Try.ntmps19 rfl ?_
  change Run _ _ _ _ [.pointer none, undef, undef, undef, undef, undef, undef, undef, undef] _
  have H := Hp.refl w0
  refine run_seq ?_
  refine run_region ?_
  refine ops_val (ex_assign rfl) ?_
  refine ops_nil ?_
  change Run _ _ _ _ [_, _, _, _, _, _, _, _, _] _
  refine run_seq ?_
  refine run_seq ?_
  refine run_region ?_
  refine ops_val (ex_move rfl) ?_
  refine ops_true (ex_eql_nil_ptr Try.underlying28 rfl) (rfl) ?_
  refine ops_nil ?_
  change Run _ _ _ _ [_, _, _, _, _, _, _, _, _] _
  refine run_cond_true rfl ?_
  refine run_seq ?_
  refine run_region ?_
  refine ops_val (ex_assign rfl) ?_
  refine ops_nil ?_
  change Run _ _ _ _ [_, _, _, _, _, _, _, _, _] _
  refine run_ret ?_
  refine fin_ret1 rfl rfl ?_
  exact ⟨rfl, rfl⟩
set_option maxRecDepth 100000 in
set_option maxHeartbeats 4000000 in
theorem next_nil (w0 : World) :
    Does Try.prog 15 #[.pointer none] w0 (fun r w' => r = .int .i64 0 ∧ w' = w0) := by
  refine does_of Try.func15 Try.ntmps15 rfl ?_
  refine nR15 ?_
  have H := Hp.refl w0
  refine run_seq ?_
  refine run_region ?_
  refine ops_val (ex_assign rfl) ?_
  refine ops_nil ?_
  refine nR15 ?_
  refine run_seq ?_
  refine run_seq ?_
  refine run_region ?_
  refine ops_val (ex_move rfl) ?_
  refine ops_true (ex_eql_nil_ptr Try.underlying28 rfl) (rfl) ?_
  refine ops_nil ?_
  refine nR15 ?_
  refine run_cond_true rfl ?_
  refine run_seq ?_
  refine run_region ?_
  refine ops_val (ex_assign rfl) ?_
  refine ops_nil ?_
  refine nR15 ?_
  refine run_ret ?_
  refine fin_ret1 rfl rfl ?_
  exact ⟨rfl, rfl⟩
abbrev fallV : Value := .iface 73 (.agg #[])
abbrev fallC : Chain := [{ v := fallV, recovered := false }]
theorem pl73 : placesOf Try.prog 73 = some [] := by kernel_rfl
set_option maxRecDepth 100000 in
set_option maxHeartbeats 4000000 in
theorem must_any (n : Nat) (w0 : World) :
    DoesP Try.prog 36 #[.int .i64 (n : Int)] w0 (fun _ w' => n = 0 ∧ w' = w0) (fun ch w' => n ≠ 0 ∧ ch = fallC ∧ w' = w0) := by
  refine does_ofP Try.func36 Try.ntmps36 rfl ?_
  change Run _ _ _ _ [.int .i64 (n : Int), undef, undef, undef, undef, undef] _
  have H := Hp.refl w0
  refine run_seq ?_
  refine run_region ?_
  refine ops_val (ex_move rfl) ?_
  refine ops_test (ex_neq rfl rfl) (fun hp3 => ?_) (fun hp3 => ?_)
  · have hn : n ≠ 0 := by omega
    refine ops_nil ?_
    change Run _ _ _ _ [_, _, _, _, _, _] _
    refine run_cond_true rfl ?_
    refine run_region ?_
    refine ops_val (ex_build ty73 pl73 rfl rfl) ?_
    refine ops_val (ex_makeInterface Try.underlying73 (fun ms h => (by cases h)) rfl) ?_
    exact ops_panic rfl ⟨hn, rfl, rfl⟩
  · have hn : n = 0 := by omega
    refine ops_nil ?_
    change Run _ _ _ _ [_, _, _, _, _, _] _
    refine run_cond_false rfl ?_
    refine run_skip ?_
    refine run_nil ?_
    refine finP_end0 rfl ?_
    exact ⟨hn, rfl⟩
end Go.Proofs.Ytgkciibfpenjpaa
