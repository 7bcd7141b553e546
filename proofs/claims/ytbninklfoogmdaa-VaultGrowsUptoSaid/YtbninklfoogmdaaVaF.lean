/- Walks of layer 2, printed by wip/gen/codec.py. -/
import Derived.Test.YtbninklfoogmdaaNrm
import Derived.Test.YtbninklfoogmdaaVq
import Derived.Test.YtbninklfoogmdaaVaC
import Derived.Test.YtbninklfoogmdaaVaD
import Derived.Test.YtbninklfoogmdaaVaE
namespace Go.Proofs.Ytbninklfoogmdaa
open Go Go.RowKit
set_option linter.unusedVariables false
attribute [local irreducible] Still Ops Does Cd
set_option maxRecDepth 100000 in
set_option maxHeartbeats 4000000 in
theorem voteC (s n : Int) (c1 c2 c3 : Value) (w0 : World) :
    Does Try.prog 39 #[.agg [.int .i64 s, c1, c2, c3].toArray, .int .i64 n] w0 (fun r w' => r = .int .i64 (cmpI s n) ∧ Hp w0 w' [] []) := by
  refine does_of Try.func39 Try.ntmps39 rfl ?_
  refine nR15 ?_
  have H := Hp.refl w0
  refine run_seq ?_
  refine run_region ?_
  refine ops_box rfl rfl H ?_
  intro w1 g1 H1 hg1
  refine ops_val (ex_assign rfl) ?_
  refine ops_nil ?_
  refine nR15 ?_
  refine run_seq ?_
  refine run_block ?_
  refine run_seq ?_
  refine run_region ?_
  refine ops_val (ex_fieldAddr fl41_0 rfl) ?_
  refine ops_val (ex_load ty3 rfl (H1.cell (i := 0) rfl rfl)) ?_
  refine ops_val (ex_move rfl) ?_
  refine ops_test (ex_lss rfl rfl) (fun hp9 => ?_) (fun hp9 => ?_)
  · skip
    refine ops_val (ex_assign rfl) ?_
    refine ops_nil ?_
    refine nR15 ?_
    refine run_cond_true rfl ?_
    refine run_seq ?_
    refine run_region ?_
    refine ops_val (ex_assign rfl) ?_
    refine ops_nil ?_
    refine nR15 ?_
    refine run_ret ?_
    refine blk_ret ?_
    refine fin_ret1 rfl rfl ?_
    exact ⟨by unfold cmpI; rw [if_pos (by omega)], H1.noRows⟩
  · skip
    refine ops_val (ex_assign rfl) ?_
    refine ops_nil ?_
    refine nR15 ?_
    refine run_cond_false rfl ?_
    refine run_seq ?_
    refine run_region ?_
    refine ops_val (ex_fieldAddr fl41_0 rfl) ?_
    refine ops_val (ex_load ty3 rfl (H1.cell (i := 0) rfl rfl)) ?_
    refine ops_val (ex_move rfl) ?_
    refine ops_test (ex_gtr rfl rfl) (fun hp14 => ?_) (fun hp14 => ?_)
    · skip
      refine ops_val (ex_assign rfl) ?_
      refine ops_nil ?_
      refine nR15 ?_
      refine run_cond_true rfl ?_
      refine run_seq ?_
      refine run_region ?_
      refine ops_val (ex_assign rfl) ?_
      refine ops_nil ?_
      refine nR15 ?_
      refine run_ret ?_
      refine blk_ret ?_
      refine fin_ret1 rfl rfl ?_
      exact ⟨by unfold cmpI; rw [if_neg (by omega), if_pos (by omega)], H1.noRows⟩
    · skip
      refine ops_val (ex_assign rfl) ?_
      refine ops_nil ?_
      refine nR15 ?_
      refine run_cond_false rfl ?_
      refine run_skip ?_
      refine run_nil (blk_normal ?_)
      refine run_seq ?_
      refine run_region ?_
      refine ops_val (ex_assign rfl) ?_
      refine ops_nil ?_
      refine nR15 ?_
      refine run_ret ?_
      refine fin_ret1 rfl rfl ?_
      exact ⟨by unfold cmpI; rw [if_neg (by omega), if_neg (by omega)], H1.noRows⟩
set_option maxRecDepth 100000 in
set_option maxHeartbeats 4000000 in
theorem placeC (s n : Int) (c1 c2 c3 c4 c5 c6 : Value) (w0 : World) :
    Does Try.prog 53 #[.agg [.int .i64 s, c1, c2, c3, c4, c5, c6].toArray, .int .i64 n] w0 (fun r w' => r = .int .i64 (cmpI s n) ∧ Hp w0 w' [] []) := by
  refine does_of Try.func53 Try.ntmps53 rfl ?_
  refine nR15 ?_
  have H := Hp.refl w0
  refine run_seq ?_
  refine run_region ?_
  refine ops_box rfl rfl H ?_
  intro w1 g1 H1 hg1
  refine ops_val (ex_assign rfl) ?_
  refine ops_nil ?_
  refine nR15 ?_
  refine run_seq ?_
  refine run_block ?_
  refine run_seq ?_
  refine run_region ?_
  refine ops_val (ex_fieldAddr fl62_0 rfl) ?_
  refine ops_val (ex_load ty3 rfl (H1.cell (i := 0) rfl rfl)) ?_
  refine ops_val (ex_move rfl) ?_
  refine ops_test (ex_lss rfl rfl) (fun hp9 => ?_) (fun hp9 => ?_)
  · skip
    refine ops_val (ex_assign rfl) ?_
    refine ops_nil ?_
    refine nR15 ?_
    refine run_cond_true rfl ?_
    refine run_seq ?_
    refine run_region ?_
    refine ops_val (ex_assign rfl) ?_
    refine ops_nil ?_
    refine nR15 ?_
    refine run_ret ?_
    refine blk_ret ?_
    refine fin_ret1 rfl rfl ?_
    exact ⟨by unfold cmpI; rw [if_pos (by omega)], H1.noRows⟩
  · skip
    refine ops_val (ex_assign rfl) ?_
    refine ops_nil ?_
    refine nR15 ?_
    refine run_cond_false rfl ?_
    refine run_seq ?_
    refine run_region ?_
    refine ops_val (ex_fieldAddr fl62_0 rfl) ?_
    refine ops_val (ex_load ty3 rfl (H1.cell (i := 0) rfl rfl)) ?_
    refine ops_val (ex_move rfl) ?_
    refine ops_test (ex_gtr rfl rfl) (fun hp14 => ?_) (fun hp14 => ?_)
    · skip
      refine ops_val (ex_assign rfl) ?_
      refine ops_nil ?_
      refine nR15 ?_
      refine run_cond_true rfl ?_
      refine run_seq ?_
      refine run_region ?_
      refine ops_val (ex_assign rfl) ?_
      refine ops_nil ?_
      refine nR15 ?_
      refine run_ret ?_
      refine blk_ret ?_
      refine fin_ret1 rfl rfl ?_
      exact ⟨by unfold cmpI; rw [if_neg (by omega), if_pos (by omega)], H1.noRows⟩
    · skip
      refine ops_val (ex_assign rfl) ?_
      refine ops_nil ?_
      refine nR15 ?_
      refine run_cond_false rfl ?_
      refine run_skip ?_
      refine run_nil (blk_normal ?_)
      refine run_seq ?_
      refine run_region ?_
      refine ops_val (ex_assign rfl) ?_
      refine ops_nil ?_
      refine nR15 ?_
      refine run_ret ?_
      refine fin_ret1 rfl rfl ?_
      exact ⟨by unfold cmpI; rw [if_neg (by omega), if_neg (by omega)], H1.noRows⟩
set_option maxRecDepth 100000 in
set_option maxHeartbeats 4000000 in
theorem behindC (s n : Int) (c1 c2 c3 : Value) (w0 : World) (gc : Nat) (gcs : List Value) (Tc : TypeId) (hgc : w0.heap[gc]? = some (.cells gcs.toArray Tc (0, 0))) (hv : gcs[0]? = some (.int .i64 n)) :
    Does Try.prog 58 #[.agg [.int .i64 s, c1, c2, c3].toArray, .pointer (some ⟨gc, 0, none⟩)] w0 (fun r w' => r = .bool (decide (s ≤ n)) ∧ Hp w0 w' [] []) := by
  refine does_of Try.func58 Try.ntmps58 rfl ?_
  change Run _ _ _ _ [.agg [.int .i64 s, c1, c2, c3].toArray, .pointer (some ⟨gc, 0, none⟩), undef, undef, undef, undef, undef, undef] _
  have H := Hp.refl w0
  refine run_seq ?_
  refine run_region ?_
  refine ops_box rfl rfl H ?_
  intro w1 g1 H1 hg1
  refine ops_val (ex_assign rfl) ?_
  refine ops_nil ?_
  change Run _ _ _ _ [_, _, _, _, _, _, _, _] _
  refine run_seq ?_
  refine run_region ?_
  refine ops_val (ex_fieldAddr fl41_0 rfl) ?_
  refine ops_val (ex_load ty3 rfl (H1.cell (i := 0) rfl rfl)) ?_
  refine ops_val (ex_load ty3 rfl (cell_at (H1.keep hgc (by simp)) hv)) ?_
  refine ops_test (ex_leq rfl rfl) (fun hp7 => ?_) (fun hp7 => ?_)
  · skip
    refine ops_val (ex_assign rfl) ?_
    refine ops_nil ?_
    change Run _ _ _ _ [_, _, _, _, _, _, _, _] _
    refine run_ret ?_
    refine fin_ret1 rfl rfl ?_
    exact ⟨bt (by omega), H1.noRows⟩
  · skip
    refine ops_val (ex_assign rfl) ?_
    refine ops_nil ?_
    change Run _ _ _ _ [_, _, _, _, _, _, _, _] _
    refine run_ret ?_
    refine fin_ret1 rfl rfl ?_
    exact ⟨bf (by omega), H1.noRows⟩
set_option maxRecDepth 100000 in
set_option maxHeartbeats 4000000 in
theorem imageC (s n : Int) (c1 : Value) (w0 : World) (gc : Nat) (gcs : List Value) (Tc : TypeId) (hgc : w0.heap[gc]? = some (.cells gcs.toArray Tc (0, 0))) (hv : gcs[0]? = some (.int .i64 n)) :
    Does Try.prog 45 #[.agg [.int .i64 s, c1].toArray, .pointer (some ⟨gc, 0, none⟩)] w0 (fun r w' => r = .bool (decide (s ≤ n)) ∧ Hp w0 w' [] []) := by
  refine does_of Try.func45 Try.ntmps45 rfl ?_
  change Run _ _ _ _ [.agg [.int .i64 s, c1].toArray, .pointer (some ⟨gc, 0, none⟩), undef, undef, undef, undef, undef, undef, undef] _
  have H := Hp.refl w0
  refine run_seq ?_
  refine run_region ?_
  refine ops_box rfl rfl H ?_
  intro w1 g1 H1 hg1
  refine ops_val (ex_assign rfl) ?_
  refine ops_nil ?_
  change Run _ _ _ _ [_, _, _, _, _, _, _, _, _] _
  refine run_seq ?_
  refine run_region ?_
  refine ops_val (ex_fieldAddr fl44_0 rfl) ?_
  refine ops_val (ex_load ty3 rfl (H1.cell (i := 0) rfl rfl)) ?_
  refine ops_val (ex_fieldAddr fl44_0 rfl) ?_
  refine ops_val (ex_load ty3 rfl (cell_at (H1.keep hgc (by simp)) hv)) ?_
  change Ops _ _ _ _ _ _ [_, _, _, _, _, _, _, _, _] _
  refine ops_test (ex_leq rfl rfl) (fun hp8 => ?_) (fun hp8 => ?_)
  · skip
    refine ops_val (ex_assign rfl) ?_
    refine ops_nil ?_
    change Run _ _ _ _ [_, _, _, _, _, _, _, _, _] _
    refine run_ret ?_
    refine fin_ret1 rfl rfl ?_
    exact ⟨bt (by omega), H1.noRows⟩
  · skip
    refine ops_val (ex_assign rfl) ?_
    refine ops_nil ?_
    change Run _ _ _ _ [_, _, _, _, _, _, _, _, _] _
    refine run_ret ?_
    refine fin_ret1 rfl rfl ?_
    exact ⟨bf (by omega), H1.noRows⟩
set_option maxRecDepth 100000 in
set_option maxHeartbeats 4000000 in
theorem spentC (s n : Int) (c1 c2 c3 c4 c5 c6 : Value) (w0 : World) (gc : Nat) (gcs : List Value) (Tc : TypeId) (hgc : w0.heap[gc]? = some (.cells gcs.toArray Tc (0, 0))) (hv : gcs[14]? = some (.int .i64 n)) :
    Does Try.prog 17 #[.agg [.int .i64 s, c1, c2, c3, c4, c5, c6].toArray, .pointer (some ⟨gc, 0, none⟩)] w0 (fun r w' => r = .bool (decide (s = n)) ∧ Hp w0 w' [] []) := by
  refine does_of Try.func17 Try.ntmps17 rfl ?_
  change Run _ _ _ _ [.agg [.int .i64 s, c1, c2, c3, c4, c5, c6].toArray, .pointer (some ⟨gc, 0, none⟩), undef, undef, undef, undef, undef, undef, undef] _
  have H := Hp.refl w0
  refine run_seq ?_
  refine run_region ?_
  refine ops_box rfl rfl H ?_
  intro w1 g1 H1 hg1
  refine ops_val (ex_assign rfl) ?_
  refine ops_nil ?_
  change Run _ _ _ _ [_, _, _, _, _, _, _, _, _] _
  refine run_seq ?_
  refine run_region ?_
  refine ops_val (ex_fieldAddr fl62_0 rfl) ?_
  refine ops_val (ex_load ty3 rfl (H1.cell (i := 0) rfl rfl)) ?_
  refine ops_val (ex_fieldAddr fl48_6 rfl) ?_
  refine ops_val (ex_load ty3 rfl (cell_at (H1.keep hgc (by simp)) hv)) ?_
  change Ops _ _ _ _ _ _ [_, _, _, _, _, _, _, _, _] _
  refine ops_test (ex_eql rfl rfl) (fun hp8 => ?_) (fun hp8 => ?_)
  · skip
    refine ops_val (ex_assign rfl) ?_
    refine ops_nil ?_
    change Run _ _ _ _ [_, _, _, _, _, _, _, _, _] _
    refine run_ret ?_
    refine fin_ret1 rfl rfl ?_
    exact ⟨bt (by omega), H1.noRows⟩
  · skip
    refine ops_val (ex_assign rfl) ?_
    refine ops_nil ?_
    change Run _ _ _ _ [_, _, _, _, _, _, _, _, _] _
    refine run_ret ?_
    refine fin_ret1 rfl rfl ?_
    exact ⟨bf (by omega), H1.noRows⟩
set_option maxRecDepth 100000 in
set_option maxHeartbeats 4000000 in
theorem cmpstr (a b : Blk) (w0 : World) :
    Does Try.prog 63 #[strV a, strV b] w0 (fun r w' => r = .int .i64 (Lib.compareBytes a b) ∧ Hp w0 w' [] []) := by
  refine does_of Try.func63 Try.ntmps63 rfl ?_
  change Run _ _ _ _ [strV a, strV b, undef, undef, undef, undef, undef, undef] _
  have H := Hp.refl w0
  refine run_seq ?_
  refine run_region ?_
  refine ops_val (ex_assign rfl) ?_
  refine ops_nil ?_
  change Run _ _ _ _ [_, _, _, _, _, _, _, _] _
  refine run_seq ?_
  refine run_region ?_
  refine ops_val (ex_move rfl) ?_
  refine ops_val (ex_move rfl) ?_
  refine ops_extern (fn := (Try.prog.funcs[68]?).get!) (e := Extern.BytealgCompare.compare) (v := .int .i64 (Lib.compareBytes a b)) (by kernel_rfl) (by kernel_rfl) (by kernel_rfl) (by kernel_rfl) (by kernel_rfl) rfl (Lib.run_compareString ⟨a.toArray⟩ ⟨b.toArray⟩ _) ?_
  refine ops_val (ex_assign rfl) ?_
  refine ops_nil ?_
  change Run _ _ _ _ [_, _, _, _, _, _, _, _] _
  refine run_ret ?_
  refine fin_ret1 rfl rfl ?_
  exact ⟨rfl, H⟩
set_option maxRecDepth 100000 in
set_option maxHeartbeats 4000000 in
theorem strcmp (a b : Blk) (w0 : World) :
    Does Try.prog 49 #[strV a, strV b] w0 (fun r w' => r = .int .i64 (Lib.compareBytes a b) ∧ Hp w0 w' [] []) := by
  refine does_of Try.func49 Try.ntmps49 rfl ?_
  change Run _ _ _ _ [strV a, strV b, undef, undef, undef, undef, undef, undef] _
  have H := Hp.refl w0
  refine run_seq ?_
  refine run_region ?_
  refine ops_val (ex_assign rfl) ?_
  refine ops_nil ?_
  change Run _ _ _ _ [_, _, _, _, _, _, _, _] _
  refine run_seq ?_
  refine run_region ?_
  refine ops_val (ex_move rfl) ?_
  refine ops_val (ex_move rfl) ?_
  refine ops_call_val (ex_call gf63 rfl) (cmpstr _ _ _) ?_
  intro w1 Hd
  have H1 := H.callN Hd
  refine ops_val (ex_assign rfl) ?_
  refine ops_nil ?_
  change Run _ _ _ _ [_, _, _, _, _, _, _, _] _
  refine run_ret ?_
  refine fin_ret1 rfl rfl ?_
  exact ⟨rfl, H1⟩
set_option maxRecDepth 100000 in
set_option maxHeartbeats 4000000 in
theorem orderC (a b : Rt) (w0 : World) :
    Does Try.prog 28 #[.agg [.int .i64 a.g, strV a.key, .int .i64 a.lease, .int .i64 a.net].toArray, .agg [.int .i64 b.g, strV b.key, .int .i64 b.lease, .int .i64 b.net].toArray] w0 (fun r w' => r = .int .i64 (ordR a b) ∧ Hp w0 w' [] []) := by
  refine does_of Try.func28 Try.ntmps28 rfl ?_
  refine nR20 ?_
  have H := Hp.refl w0
  refine run_seq ?_
  refine run_region ?_
  refine ops_box rfl rfl H ?_
  intro w1 g1 H1 hg1
  refine ops_box rfl rfl H1 ?_
  intro w2 g2 H2 hg2
  refine ops_val (ex_assign rfl) ?_
  refine ops_nil ?_
  refine nR20 ?_
  refine run_seq ?_
  refine run_seq ?_
  refine run_region ?_
  refine ops_val (ex_fieldAddr fl46_0 rfl) ?_
  refine ops_val (ex_load ty3 rfl (H2.cell (i := 0) rfl rfl)) ?_
  refine ops_val (ex_fieldAddr fl46_0 rfl) ?_
  refine ops_val (ex_load ty3 rfl (H2.cell (i := 1) rfl rfl)) ?_
  refine nO20 ?_
  refine ops_test (ex_neq rfl rfl) (fun hp9 => ?_) (fun hp9 => ?_)
  · skip
    refine ops_nil ?_
    refine nR20 ?_
    refine run_cond_true rfl ?_
    refine run_seq ?_
    refine run_seq ?_
    refine run_region ?_
    refine ops_val (ex_fieldAddr fl46_0 rfl) ?_
    refine ops_val (ex_load ty3 rfl (H2.cell (i := 0) rfl rfl)) ?_
    refine ops_val (ex_fieldAddr fl46_0 rfl) ?_
    refine ops_val (ex_load ty3 rfl (H2.cell (i := 1) rfl rfl)) ?_
    refine nO20 ?_
    refine ops_test (ex_lss rfl rfl) (fun hp14 => ?_) (fun hp14 => ?_)
    · skip
      refine ops_nil ?_
      refine nR20 ?_
      refine run_cond_true rfl ?_
      refine run_seq ?_
      refine run_region ?_
      refine ops_val (ex_assign rfl) ?_
      refine ops_nil ?_
      refine nR20 ?_
      refine run_ret ?_
      refine fin_ret1 rfl rfl ?_
      exact ⟨by unfold ordR; rw [if_pos (by omega), if_pos (by omega)], H2.noRows⟩
    · skip
      refine ops_nil ?_
      refine nR20 ?_
      refine run_cond_false rfl ?_
      refine run_skip ?_
      refine run_seq ?_
      refine run_region ?_
      refine ops_val (ex_assign rfl) ?_
      refine ops_nil ?_
      refine nR20 ?_
      refine run_ret ?_
      refine fin_ret1 rfl rfl ?_
      exact ⟨by unfold ordR; rw [if_pos (by omega), if_neg (by omega)], H2.noRows⟩
  · skip
    refine ops_nil ?_
    refine nR20 ?_
    refine run_cond_false rfl ?_
    refine run_skip ?_
    refine run_seq ?_
    refine run_region ?_
    refine ops_val (ex_fieldAddr fl46_1 rfl) ?_
    refine ops_val (ex_load ty9 rfl (H2.cell (i := 0) rfl rfl)) ?_
    refine ops_val (ex_fieldAddr fl46_1 rfl) ?_
    refine ops_val (ex_load ty9 rfl (H2.cell (i := 1) rfl rfl)) ?_
    refine nO20 ?_
    refine ops_call_val (ex_call gf49 rfl) (strcmp _ _ _) ?_
    intro w3 Hd
    have H3 := H2.callN Hd
    refine ops_val (ex_assign rfl) ?_
    refine ops_nil ?_
    refine nR20 ?_
    refine run_ret ?_
    refine fin_ret1 rfl rfl ?_
    exact ⟨by unfold ordR; rw [if_neg (by omega)], H3.noRows⟩
theorem cmp_vote {w : World} {ok : Nat → Prop} {n : Int} {ps : List (List Value)} {l : List Vt} (h2 : All2 (VtR w ok) ps l) (hr : Rise (fun x : Vt => cmpI x.slot n) l) : Cmp Try.prog 39 (.int .i64 n) (vtCf n) ps :=
  ⟨gf39, fun w1 p hp => by
    obtain ⟨i, hi⟩ := List.getElem?_of_mem hp
    obtain ⟨x, _, hR⟩ := h2.getL hi
    obtain ⟨A, k, rfl, _⟩ := hR
    exact voteC x.slot n _ _ _ w1, hr.mono h2 fun p x h => vtCf_eq h⟩
theorem cmp_mark {n : Int} {ps : List (List Value)} {l : List Mk} (h2 : All2 MkR ps l) (hr : Rise (fun x : Mk => cmpI x.client n) l) : Cmp Try.prog 53 (.int .i64 n) (mkCf n) ps :=
  ⟨gf53, fun w1 p hp => by
    obtain ⟨i, hi⟩ := List.getElem?_of_mem hp
    obtain ⟨x, _, hR⟩ := h2.getL hi
    unfold MkR at hR
    subst hR
    exact placeC x.client n _ _ _ _ _ _ w1, hr.mono h2 fun p x h => mkCf_eq h⟩
theorem cmp_right {r : Rt} {ps : List (List Value)} {l : List Rt} (h2 : All2 RtR ps l) (hr : Rise (fun x : Rt => ordR x r) l) : Cmp Try.prog 28 (.agg (rtC r).toArray) (rtCf r) ps :=
  ⟨gf28, fun w1 p hp => by
    obtain ⟨i, hi⟩ := List.getElem?_of_mem hp
    obtain ⟨x, _, hR⟩ := h2.getL hi
    have e := rtCf_eq (r := r) hR
    unfold RtR at hR
    subst hR
    rw [e]
    exact orderC x r w1, hr.mono h2 fun p x h => rtCf_eq h⟩
theorem prd_behind {w w0 : World} {ok : Nat → Prop} {n : Int} {gc : Nat} {gcs : List Value} {Tc : TypeId} {ps : List (List Value)} {l : List Vt} (h2 : All2 (VtR w ok) ps l) (hgc : w0.heap[gc]? = some (.cells gcs.toArray Tc (0, 0))) (hv : gcs[0]? = some (.int .i64 n)) : Prd Try.prog 58 gc (vtLe n) ps w0 :=
  ⟨gf58, (Array.getElem?_eq_some_iff.1 hgc).1, fun w1 h1 p hp => by
    obtain ⟨i, hi⟩ := List.getElem?_of_mem hp
    obtain ⟨x, _, hR⟩ := h2.getL hi
    obtain ⟨A, k, rfl, _⟩ := hR
    exact behindC x.slot n _ _ _ w1 gc gcs Tc (h1.trans hgc) hv⟩
theorem prd_image {w w0 : World} {ok : Nat → Prop} {n : Int} {gc : Nat} {gcs : List Value} {Tc : TypeId} {ps : List (List Value)} {l : List En} (h2 : All2 (EnR w ok) ps l) (hgc : w0.heap[gc]? = some (.cells gcs.toArray Tc (0, 0))) (hv : gcs[0]? = some (.int .i64 n)) : Prd Try.prog 45 gc (vtLe n) ps w0 :=
  ⟨gf45, (Array.getElem?_eq_some_iff.1 hgc).1, fun w1 h1 p hp => by
    obtain ⟨i, hi⟩ := List.getElem?_of_mem hp
    obtain ⟨x, _, hR⟩ := h2.getL hi
    obtain ⟨A, k, rfl, _⟩ := hR
    exact imageC x.slot n _ w1 gc gcs Tc (h1.trans hgc) hv⟩
theorem prd_spent {w0 : World} {n : Int} {gc : Nat} {gcs : List Value} {Tc : TypeId} {ps : List (List Value)} {l : List Mk} (h2 : All2 MkR ps l) (hgc : w0.heap[gc]? = some (.cells gcs.toArray Tc (0, 0))) (hv : gcs[14]? = some (.int .i64 n)) : Prd Try.prog 17 gc (mkIs n) ps w0 :=
  ⟨gf17, (Array.getElem?_eq_some_iff.1 hgc).1, fun w1 h1 p hp => by
    obtain ⟨i, hi⟩ := List.getElem?_of_mem hp
    obtain ⟨x, _, hR⟩ := h2.getL hi
    unfold MkR at hR
    subst hR
    exact spentC x.client n _ _ _ _ _ _ w1 gc gcs Tc (h1.trans hgc) hv⟩
end Go.Proofs.Ytbninklfoogmdaa
