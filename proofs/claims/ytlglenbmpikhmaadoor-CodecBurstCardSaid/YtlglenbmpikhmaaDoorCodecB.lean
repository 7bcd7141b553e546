/- Walks of layer 2, printed by wip/gen/codec.py. -/
import Derived.Test.YtlglenbmpikhmaaDoorRead
import Derived.Test.YtlglenbmpikhmaaDoorMid
namespace Go.Proofs.YtlglenbmpikhmaaDoor
open Go Go.RowKit
set_option linter.unusedVariables false
attribute [local irreducible] Still Ops Does Cd
theorem pl51 : placesOf Tryd.prog 51 = some [(0, 1), (1, 1), (2, 1)] := by kernel_rfl
set_option maxRecDepth 100000 in
set_option maxHeartbeats 4000000 in
theorem num1_any (gv : Nat) (w0 : World) (hg : w0.heap[gv]? = some (.cells [.int .u64 0].toArray 31 (0, 0))) (A : Option Addr) (b : List UInt8) (c : Nat) (hr : Rd w0 A b.length 1 (u8s b)) (hb : b.length ≤ 211106232532992) :
    Does Tryd.prog 34 #[.slice A b.length c, .pointer (some ⟨gv, 0, none⟩)] w0 (fun r w' => r = .tuple #[.int .i64 ((numOf b).2.1 : Int), .int .i64 ((numOf b).2.2 : Int)] ∧ Hp w0 w' [gv] [(some gv, 31, [.int .u64 ((numOf b).1 : Int)])]) := by
  refine does_of Tryd.func34 Tryd.ntmps34 rfl ?_
  change Run _ _ _ _ [.slice A b.length c, .pointer (some ⟨gv, 0, none⟩), undef, undef, undef, undef, undef, undef, undef, undef, undef, undef, undef] _
  have H := Hp.old hg
  refine run_seq ?_
  refine run_region ?_
  refine ops_val (ex_assign rfl) ?_
  refine ops_val (ex_assign rfl) ?_
  refine ops_nil ?_
  change Run _ _ _ _ [_, _, _, _, _, _, _, _, _, _, _, _, _] _
  refine run_seq ?_
  refine run_region ?_
  refine ops_val (ex_move rfl) ?_
  refine ops_call_eq (ex_call gf35 rfl) (number_any A b c _ hr hb) ?_
  refine ops_val (ex_move rfl) ?_
  refine ops_val (ex_extract rfl rfl) ?_
  change Ops _ _ _ _ _ _ [_, _, _, _, _, _, _, _, _, _, _, _, _] _
  refine ops_val (ex_extract rfl rfl) ?_
  refine ops_val (ex_extract rfl rfl) ?_
  refine ops_store1 ty31 H 0 rfl rfl rfl rfl (by first | decide | simp) rfl ?_
  intro w1 H1
  refine ops_val (ex_assign rfl) ?_
  refine ops_val (ex_assign rfl) ?_
  refine ops_nil ?_
  change Run _ _ _ _ [_, _, _, _, _, _, _, _, _, _, _, _, _] _
  refine run_seq ?_
  refine run_region ?_
  refine ops_val (ex_move rfl) ?_
  refine ops_val (ex_move rfl) ?_
  refine ops_val (ex_assign rfl) ?_
  refine ops_val (ex_assign rfl) ?_
  refine ops_nil ?_
  change Run _ _ _ _ [_, _, _, _, _, _, _, _, _, _, _, _, _] _
  refine run_ret ?_
  refine fin_ret2 rfl rfl rfl ?_
  exact ⟨rfl, H1⟩
set_option maxRecDepth 100000 in
set_option maxHeartbeats 4000000 in
theorem thing_nil (v : Value) (w0 : World) :
    Does Tryd.prog 33 #[.pointer none, v] w0 (fun r w' => r = .bool false ∧ w' = w0) := by
  refine does_of Tryd.func33 Tryd.ntmps33 rfl ?_
  change Run _ _ _ _ [.pointer none, v, undef, undef, undef, undef, undef, undef, undef, undef, undef, undef, undef, undef, undef, undef, undef, undef, undef, undef, undef, undef, undef, undef, undef, undef, undef, undef, undef, undef, undef, undef, undef, undef, undef, undef, undef, undef, undef, undef, undef, undef, undef, undef, undef, undef, undef, undef, undef, undef, undef, undef, undef, undef] _
  have H := Hp.refl w0
  refine run_seq ?_
  refine run_region ?_
  refine ops_val (ex_assign rfl) ?_
  refine ops_nil ?_
  change Run _ _ _ _ [_, _, _, _, _, _, _, _, _, _, _, _, _, _, _, _, _, _, _, _, _, _, _, _, _, _, _, _, _, _, _, _, _, _, _, _, _, _, _, _, _, _, _, _, _, _, _, _, _, _, _, _, _, _] _
  refine run_seq ?_
  refine run_seq ?_
  refine run_region ?_
  refine ops_val (ex_move rfl) ?_
  refine ops_true (ex_eql_nil_ptr Tryd.underlying44 rfl) (rfl) ?_
  refine ops_val (ex_move rfl) ?_
  change Ops _ _ _ _ _ _ [_, _, _, _, _, _, _, _, _, _, _, _, _, _, _, _, _, _, _, _, _, _, _, _, _, _, _, _, _, _, _, _, _, _, _, _, _, _, _, _, _, _, _, _, _, _, _, _, _, _, _, _, _, _] _
  refine ops_no rfl ?_
  refine ops_no rfl ?_
  change Ops _ _ _ _ _ _ [_, _, _, _, _, _, _, _, _, _, _, _, _, _, _, _, _, _, _, _, _, _, _, _, _, _, _, _, _, _, _, _, _, _, _, _, _, _, _, _, _, _, _, _, _, _, _, _, _, _, _, _, _, _] _
  refine ops_no rfl ?_
  refine ops_no rfl ?_
  change Ops _ _ _ _ _ _ [_, _, _, _, _, _, _, _, _, _, _, _, _, _, _, _, _, _, _, _, _, _, _, _, _, _, _, _, _, _, _, _, _, _, _, _, _, _, _, _, _, _, _, _, _, _, _, _, _, _, _, _, _, _] _
  refine ops_no rfl ?_
  refine ops_val (ex_pick_t rfl rfl) ?_
  refine ops_nil ?_
  change Run _ _ _ _ [_, _, _, _, _, _, _, _, _, _, _, _, _, _, _, _, _, _, _, _, _, _, _, _, _, _, _, _, _, _, _, _, _, _, _, _, _, _, _, _, _, _, _, _, _, _, _, _, _, _, _, _, _, _] _
  refine run_cond_true rfl ?_
  refine run_seq ?_
  refine run_region ?_
  refine ops_val (ex_assign rfl) ?_
  refine ops_nil ?_
  change Run _ _ _ _ [_, _, _, _, _, _, _, _, _, _, _, _, _, _, _, _, _, _, _, _, _, _, _, _, _, _, _, _, _, _, _, _, _, _, _, _, _, _, _, _, _, _, _, _, _, _, _, _, _, _, _, _, _, _] _
  refine run_ret ?_
  refine fin_ret1 rfl rfl ?_
  exact ⟨rfl, rfl⟩
set_option maxRecDepth 100000 in
set_option maxHeartbeats 4000000 in
theorem thing_bad (v : Value) (gr : Nat) (A : Option Addr) (c : Nat) (b : List UInt8) (i e : Nat) (w0 : World) (hR : Rdr w0 gr A c b i e) (he : e ≠ 0) :
    Does Tryd.prog 33 #[.pointer (some ⟨gr, 0, none⟩), v] w0 (fun r w' => r = .bool false ∧ w' = w0) := by
  refine does_of Tryd.func33 Tryd.ntmps33 rfl ?_
  change Run _ _ _ _ [.pointer (some ⟨gr, 0, none⟩), v, undef, undef, undef, undef, undef, undef, undef, undef, undef, undef, undef, undef, undef, undef, undef, undef, undef, undef, undef, undef, undef, undef, undef, undef, undef, undef, undef, undef, undef, undef, undef, undef, undef, undef, undef, undef, undef, undef, undef, undef, undef, undef, undef, undef, undef, undef, undef, undef, undef, undef, undef, undef] _
  have H := Hp.old hR.row
  have hle := hR.le
  have hln := hR.len
  have hcp := hR.cap
  refine run_seq ?_
  refine run_region ?_
  refine ops_val (ex_assign rfl) ?_
  refine ops_nil ?_
  change Run _ _ _ _ [_, _, _, _, _, _, _, _, _, _, _, _, _, _, _, _, _, _, _, _, _, _, _, _, _, _, _, _, _, _, _, _, _, _, _, _, _, _, _, _, _, _, _, _, _, _, _, _, _, _, _, _, _, _] _
  refine run_seq ?_
  refine run_seq ?_
  refine run_region ?_
  refine ops_val (ex_move rfl) ?_
  refine ops_false (ex_eql_nil_ptr Tryd.underlying44 rfl) (by simp) ?_
  refine ops_val (ex_move rfl) ?_
  change Ops _ _ _ _ _ _ [_, _, _, _, _, _, _, _, _, _, _, _, _, _, _, _, _, _, _, _, _, _, _, _, _, _, _, _, _, _, _, _, _, _, _, _, _, _, _, _, _, _, _, _, _, _, _, _, _, _, _, _, _, _] _
  refine ops_yes rfl ?_
  refine ops_val (ex_move rfl) ?_
  refine ops_yes rfl ?_
  refine ops_val (ex_nilCheck rfl) ?_
  change Ops _ _ _ _ _ _ [_, _, _, _, _, _, _, _, _, _, _, _, _, _, _, _, _, _, _, _, _, _, _, _, _, _, _, _, _, _, _, _, _, _, _, _, _, _, _, _, _, _, _, _, _, _, _, _, _, _, _, _, _, _] _
  refine ops_yes rfl ?_
  refine ops_val (ex_fieldAddr fl51_2 rfl) ?_
  refine ops_yes rfl ?_
  refine ops_val (ex_load ty24 rfl (H.cell (i := 0) rfl rfl)) ?_
  change Ops _ _ _ _ _ _ [_, _, _, _, _, _, _, _, _, _, _, _, _, _, _, _, _, _, _, _, _, _, _, _, _, _, _, _, _, _, _, _, _, _, _, _, _, _, _, _, _, _, _, _, _, _, _, _, _, _, _, _, _, _] _
  refine ops_yes rfl ?_
  refine ops_true (ex_neq rfl rfl) (by omega) ?_
  refine ops_val (ex_pick_f rfl rfl) ?_
  refine ops_nil ?_
  change Run _ _ _ _ [_, _, _, _, _, _, _, _, _, _, _, _, _, _, _, _, _, _, _, _, _, _, _, _, _, _, _, _, _, _, _, _, _, _, _, _, _, _, _, _, _, _, _, _, _, _, _, _, _, _, _, _, _, _] _
  refine run_cond_true rfl ?_
  refine run_seq ?_
  refine run_region ?_
  refine ops_val (ex_assign rfl) ?_
  refine ops_nil ?_
  change Run _ _ _ _ [_, _, _, _, _, _, _, _, _, _, _, _, _, _, _, _, _, _, _, _, _, _, _, _, _, _, _, _, _, _, _, _, _, _, _, _, _, _, _, _, _, _, _, _, _, _, _, _, _, _, _, _, _, _] _
  refine run_ret ?_
  refine fin_ret1 rfl rfl ?_
  exact ⟨rfl, rfl⟩
set_option maxRecDepth 100000 in
set_option maxHeartbeats 4000000 in
theorem thing_go (gr : Nat) (A : Option Addr) (c : Nat) (b : List UInt8) (i e : Nat) (w0 : World) (hR : Rdr w0 gr A c b i e) (he : e = 0) (fc : FuncId) (cap : List Value) (hf : goFn Tryd.prog fc = true) (R : Nat → Nat → World → Prop) (hc : ∀ w1, Hp w0 w1 [] [] → Does Tryd.prog fc (.slice (cutAddr A i b.length 1) (b.drop i).length (b.drop i).length :: cap).toArray w1 (fun r w2 => ∃ k f : Nat, r = .tuple #[.int .i64 k, .int .i64 f] ∧ R k f w2)) (hrow : ∀ k f w2, R k f w2 → w2.heap[gr]? = some (.cells (rc A b c i e).toArray 51 (0, 0))) (hle2 : ∀ k f w2, R k f w2 → i + k ≤ b.length ∧ f < 100) (hz : ∀ k f w2, R k f w2 → f ≠ 0 → k = 0) :
    Does Tryd.prog 33 #[.pointer (some ⟨gr, 0, none⟩), .func (.func fc) #[] cap.toArray] w0 (fun r w' => ∃ k f w2, R k f w2 ∧ r = .bool (decide (f = 0)) ∧ Hp w2 w' [gr] [(some gr, 51, rc A b c (i + k) f)]) := by
  refine does_of Tryd.func33 Tryd.ntmps33 rfl ?_
  change Run _ _ _ _ [.pointer (some ⟨gr, 0, none⟩), .func (.func fc) #[] cap.toArray, undef, undef, undef, undef, undef, undef, undef, undef, undef, undef, undef, undef, undef, undef, undef, undef, undef, undef, undef, undef, undef, undef, undef, undef, undef, undef, undef, undef, undef, undef, undef, undef, undef, undef, undef, undef, undef, undef, undef, undef, undef, undef, undef, undef, undef, undef, undef, undef, undef, undef, undef, undef] _
  have H := Hp.old hR.row
  have hle := hR.le
  have hln := hR.len
  have hcp := hR.cap
  refine run_seq ?_
  refine run_region ?_
  refine ops_val (ex_assign rfl) ?_
  refine ops_nil ?_
  change Run _ _ _ _ [_, _, _, _, _, _, _, _, _, _, _, _, _, _, _, _, _, _, _, _, _, _, _, _, _, _, _, _, _, _, _, _, _, _, _, _, _, _, _, _, _, _, _, _, _, _, _, _, _, _, _, _, _, _] _
  refine run_seq ?_
  refine run_seq ?_
  refine run_region ?_
  refine ops_val (ex_move rfl) ?_
  refine ops_false (ex_eql_nil_ptr Tryd.underlying44 rfl) (by simp) ?_
  refine ops_val (ex_move rfl) ?_
  change Ops _ _ _ _ _ _ [_, _, _, _, _, _, _, _, _, _, _, _, _, _, _, _, _, _, _, _, _, _, _, _, _, _, _, _, _, _, _, _, _, _, _, _, _, _, _, _, _, _, _, _, _, _, _, _, _, _, _, _, _, _] _
  refine ops_yes rfl ?_
  refine ops_val (ex_move rfl) ?_
  refine ops_yes rfl ?_
  refine ops_val (ex_nilCheck rfl) ?_
  change Ops _ _ _ _ _ _ [_, _, _, _, _, _, _, _, _, _, _, _, _, _, _, _, _, _, _, _, _, _, _, _, _, _, _, _, _, _, _, _, _, _, _, _, _, _, _, _, _, _, _, _, _, _, _, _, _, _, _, _, _, _] _
  refine ops_yes rfl ?_
  refine ops_val (ex_fieldAddr fl51_2 rfl) ?_
  refine ops_yes rfl ?_
  refine ops_val (ex_load ty24 rfl (H.cell (i := 0) rfl rfl)) ?_
  change Ops _ _ _ _ _ _ [_, _, _, _, _, _, _, _, _, _, _, _, _, _, _, _, _, _, _, _, _, _, _, _, _, _, _, _, _, _, _, _, _, _, _, _, _, _, _, _, _, _, _, _, _, _, _, _, _, _, _, _, _, _] _
  refine ops_yes rfl ?_
  refine ops_false (ex_neq rfl rfl) (by omega) ?_
  refine ops_val (ex_pick_f rfl rfl) ?_
  refine ops_nil ?_
  change Run _ _ _ _ [_, _, _, _, _, _, _, _, _, _, _, _, _, _, _, _, _, _, _, _, _, _, _, _, _, _, _, _, _, _, _, _, _, _, _, _, _, _, _, _, _, _, _, _, _, _, _, _, _, _, _, _, _, _] _
  refine run_cond_false rfl ?_
  refine run_skip ?_
  refine run_seq ?_
  refine run_mid 20 1 mixed (by kernel_rfl) rfl rfl ?_
  rintro w1 hw1
  have H1 := Hp.drew H; rw [← hw1] at H1
  refine still_val (ex_move rfl) ?_
  refine still_val (ex_move rfl) ?_
  refine still_val (ex_nilCheck rfl) ?_
  refine still_val (ex_fieldAddr fl51_0 rfl) ?_
  change Still _ _ _ _ _ _ [_, _, _, _, _, _, _, _, _, _, _, _, _, _, _, _, _, _, _, _, _, _, _, _, _, _, _, _, _, _, _, _, _, _, _, _, _, _, _, _, _, _, _, _, _, _, _, _, _, _, _, _, _, _]
  refine still_val (ex_load ty22 rfl (H1.cell (i := 0) rfl rfl)) ?_
  refine still_val (ex_move rfl) ?_
  refine still_val (ex_nilCheck rfl) ?_
  refine still_val (ex_fieldAddr fl51_1 rfl) ?_
  change Still _ _ _ _ _ _ [_, _, _, _, _, _, _, _, _, _, _, _, _, _, _, _, _, _, _, _, _, _, _, _, _, _, _, _, _, _, _, _, _, _, _, _, _, _, _, _, _, _, _, _, _, _, _, _, _, _, _, _, _, _]
  refine still_val (ex_load ty3 rfl (H1.cell (i := 0) rfl rfl)) ?_
  refine still_val (ex_move rfl) ?_
  refine still_val (ex_nilCheck rfl) ?_
  refine still_val (ex_fieldAddr fl51_0 rfl) ?_
  change Still _ _ _ _ _ _ [_, _, _, _, _, _, _, _, _, _, _, _, _, _, _, _, _, _, _, _, _, _, _, _, _, _, _, _, _, _, _, _, _, _, _, _, _, _, _, _, _, _, _, _, _, _, _, _, _, _, _, _, _, _]
  refine still_val (ex_load ty22 rfl (H1.cell (i := 0) rfl rfl)) ?_
  refine still_val (ex_len_slice Tryd.underlying22 rfl) ?_
  refine still_val (ex_move rfl) ?_
  refine still_val (ex_nilCheck rfl) ?_
  change Still _ _ _ _ _ _ [_, _, _, _, _, _, _, _, _, _, _, _, _, _, _, _, _, _, _, _, _, _, _, _, _, _, _, _, _, _, _, _, _, _, _, _, _, _, _, _, _, _, _, _, _, _, _, _, _, _, _, _, _, _]
  refine still_val (ex_fieldAddr fl51_0 rfl) ?_
  refine still_val (ex_load ty22 rfl (H1.cell (i := 0) rfl rfl)) ?_
  refine still_val (ex_len_slice Tryd.underlying22 rfl) ?_
  refine still_val (ex_cut3s Tryd.underlying22 ty5 (lo := i) (hi := b.length) (mx := b.length) (n := (b.drop i).length) (m := (b.drop i).length) rfl rfl rfl rfl (by omega) List.length_drop List.length_drop) ?_
  refine still_nil ?_
  refine ops_call_pair (ex_call_val hf rfl rfl) (hc _ (by rw [hw1]; exact (Hp.refl w0).drew)) ?_
  intro k f w2 hk
  have H2 := Hp.old (hrow k f _ hk)
  have hk1 := hle2 k f _ hk
  have hk2 := hz k f _ hk
  change Ops _ _ _ _ _ _ [_, _, _, _, _, _, _, _, _, _, _, _, _, _, _, _, _, _, _, _, _, _, _, _, _, _, _, _, _, _, _, _, _, _, _, _, _, _, _, _, _, _, _, _, _, _, _, _, _, _, _, _, _, _] _
  refine ops_val (ex_move rfl) ?_
  refine ops_nil ?_
  refine still_val (ex_extract rfl rfl) ?_
  refine still_val (ex_extract rfl rfl) ?_
  refine still_val (ex_assign rfl) ?_
  change Still _ _ _ _ _ _ [_, _, _, _, _, _, _, _, _, _, _, _, _, _, _, _, _, _, _, _, _, _, _, _, _, _, _, _, _, _, _, _, _, _, _, _, _, _, _, _, _, _, _, _, _, _, _, _, _, _, _, _, _, _]
  refine still_val (ex_assign rfl) ?_
  refine still_nil ?_
  change Run _ _ _ _ [_, _, _, _, _, _, _, _, _, _, _, _, _, _, _, _, _, _, _, _, _, _, _, _, _, _, _, _, _, _, _, _, _, _, _, _, _, _, _, _, _, _, _, _, _, _, _, _, _, _, _, _, _, _] _
  refine run_seq ?_
  refine run_seq ?_
  refine run_region ?_
  refine ops_val (ex_move rfl) ?_
  refine ops_test (ex_neq rfl rfl) (fun hp41 => ?_) (fun hp41 => ?_)
  · skip
    refine ops_nil ?_
    change Run _ _ _ _ [_, _, _, _, _, _, _, _, _, _, _, _, _, _, _, _, _, _, _, _, _, _, _, _, _, _, _, _, _, _, _, _, _, _, _, _, _, _, _, _, _, _, _, _, _, _, _, _, _, _, _, _, _, _] _
    refine run_cond_true rfl ?_
    refine run_seq ?_
    refine run_region ?_
    refine ops_val (ex_move rfl) ?_
    refine ops_val (ex_move rfl) ?_
    refine ops_val (ex_nilCheck rfl) ?_
    refine ops_val (ex_fieldAddr fl51_2 rfl) ?_
    change Ops _ _ _ _ _ _ [_, _, _, _, _, _, _, _, _, _, _, _, _, _, _, _, _, _, _, _, _, _, _, _, _, _, _, _, _, _, _, _, _, _, _, _, _, _, _, _, _, _, _, _, _, _, _, _, _, _, _, _, _, _] _
    refine ops_store1 ty24 H2 0 rfl rfl rfl rfl (by first | decide | simp) rfl ?_
    intro w3 H3
    refine ops_nil ?_
    change Run _ _ _ _ [_, _, _, _, _, _, _, _, _, _, _, _, _, _, _, _, _, _, _, _, _, _, _, _, _, _, _, _, _, _, _, _, _, _, _, _, _, _, _, _, _, _, _, _, _, _, _, _, _, _, _, _, _, _] _
    refine run_seq ?_
    refine run_region ?_
    refine ops_val (ex_assign rfl) ?_
    refine ops_nil ?_
    change Run _ _ _ _ [_, _, _, _, _, _, _, _, _, _, _, _, _, _, _, _, _, _, _, _, _, _, _, _, _, _, _, _, _, _, _, _, _, _, _, _, _, _, _, _, _, _, _, _, _, _, _, _, _, _, _, _, _, _] _
    refine run_ret ?_
    refine fin_ret1 rfl rfl ?_
    refine ⟨k, f, _, hk, by rw [decide_eq_false (by omega)], ?_⟩
    have h0 := hk2 (by omega)
    subst h0
    exact H3
  · have h5 : f = 0 := by omega
    refine ops_nil ?_
    change Run _ _ _ _ [_, _, _, _, _, _, _, _, _, _, _, _, _, _, _, _, _, _, _, _, _, _, _, _, _, _, _, _, _, _, _, _, _, _, _, _, _, _, _, _, _, _, _, _, _, _, _, _, _, _, _, _, _, _] _
    refine run_cond_false rfl ?_
    refine run_skip ?_
    refine run_seq ?_
    refine run_region ?_
    refine ops_val (ex_move rfl) ?_
    refine ops_val (ex_nilCheck rfl) ?_
    refine ops_val (ex_fieldAddr fl51_1 rfl) ?_
    refine ops_val (ex_load ty3 rfl (H2.cell (i := 0) rfl rfl)) ?_
    change Ops _ _ _ _ _ _ [_, _, _, _, _, _, _, _, _, _, _, _, _, _, _, _, _, _, _, _, _, _, _, _, _, _, _, _, _, _, _, _, _, _, _, _, _, _, _, _, _, _, _, _, _, _, _, _, _, _, _, _, _, _] _
    refine ops_val (ex_move rfl) ?_
    refine ops_val (ex_add rfl rfl ((IntWalk.i64_in _ (by omega)).trans (show ((i : Int) + (k : Int)) = ((i + k : Nat) : Int) by omega))) ?_
    refine ops_val (ex_nilCheck rfl) ?_
    refine ops_val (ex_fieldAddr fl51_1 rfl) ?_
    change Ops _ _ _ _ _ _ [_, _, _, _, _, _, _, _, _, _, _, _, _, _, _, _, _, _, _, _, _, _, _, _, _, _, _, _, _, _, _, _, _, _, _, _, _, _, _, _, _, _, _, _, _, _, _, _, _, _, _, _, _, _] _
    refine ops_store1 ty3 H2 0 rfl rfl rfl rfl (by first | decide | simp) rfl ?_
    intro w3 H3
    refine ops_nil ?_
    change Run _ _ _ _ [_, _, _, _, _, _, _, _, _, _, _, _, _, _, _, _, _, _, _, _, _, _, _, _, _, _, _, _, _, _, _, _, _, _, _, _, _, _, _, _, _, _, _, _, _, _, _, _, _, _, _, _, _, _] _
    refine run_seq ?_
    refine run_region ?_
    refine ops_val (ex_assign rfl) ?_
    refine ops_nil ?_
    change Run _ _ _ _ [_, _, _, _, _, _, _, _, _, _, _, _, _, _, _, _, _, _, _, _, _, _, _, _, _, _, _, _, _, _, _, _, _, _, _, _, _, _, _, _, _, _, _, _, _, _, _, _, _, _, _, _, _, _] _
    refine run_ret ?_
    refine fin_ret1 rfl rfl ?_
    refine ⟨k, f, _, hk, by rw [decide_eq_true (by omega)], ?_⟩
    subst h5
    subst he
    exact H3
end Go.Proofs.YtlglenbmpikhmaaDoor
