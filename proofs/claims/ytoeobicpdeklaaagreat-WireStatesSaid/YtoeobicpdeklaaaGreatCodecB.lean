/- Walks of layer 2, printed by wip/gen/codec.py. -/
import Derived.Test.YtoeobicpdeklaaaGreatNrm
import Derived.Test.YtoeobicpdeklaaaGreatRead
import Derived.Test.YtoeobicpdeklaaaGreatMid
namespace Go.Proofs.YtoeobicpdeklaaaGreat
open Go Go.RowKit
set_option linter.unusedVariables false
attribute [local irreducible] Still Ops Does Cd
theorem pl159 : placesOf Tryz.prog 159 = some [(0, 1), (1, 1), (2, 1)] := by kernel_rfl
set_option maxRecDepth 100000 in
set_option maxHeartbeats 4000000 in
theorem num1_any (gv : Nat) (w0 : World) (hg : w0.heap[gv]? = some (.cells [.int .u64 0].toArray 136 (0, 0))) (A : Option Addr) (b : List UInt8) (c : Nat) (hr : Rd w0 A b.length 1 (u8s b)) (hb : b.length ≤ 211106232532992) :
    Does Tryz.prog 107 #[.slice A b.length c, .pointer (some ⟨gv, 0, none⟩)] w0 (fun r w' => r = .tuple #[.int .i64 ((numOf b).2.1 : Int), .int .i64 ((numOf b).2.2 : Int)] ∧ Hp w0 w' [gv] [(some gv, 136, [.int .u64 ((numOf b).1 : Int)])]) := by
  refine does_of Tryz.func107 Tryz.ntmps107 rfl ?_
  refine nR13 ?_
  have H := Hp.old hg
  refine run_seq ?_
  refine run_region ?_
  refine ops_val (ex_assign rfl) ?_
  refine ops_val (ex_assign rfl) ?_
  refine ops_nil ?_
  refine nR13 ?_
  refine run_seq ?_
  refine run_region ?_
  refine ops_val (ex_move rfl) ?_
  refine ops_call_eq (ex_call gf108 rfl) (number_any A b c _ hr hb) ?_
  refine ops_val (ex_move rfl) ?_
  refine ops_val (ex_extract rfl rfl) ?_
  refine nO13 ?_
  refine ops_val (ex_extract rfl rfl) ?_
  refine ops_val (ex_extract rfl rfl) ?_
  refine ops_store1 ty136 H 0 rfl rfl rfl rfl (by first | decide | simp) rfl ?_
  intro w1 H1
  refine ops_val (ex_assign rfl) ?_
  refine ops_val (ex_assign rfl) ?_
  refine ops_nil ?_
  refine nR13 ?_
  refine run_seq ?_
  refine run_region ?_
  refine ops_val (ex_move rfl) ?_
  refine ops_val (ex_move rfl) ?_
  refine ops_val (ex_assign rfl) ?_
  refine ops_val (ex_assign rfl) ?_
  refine ops_nil ?_
  refine nR13 ?_
  refine run_ret ?_
  refine fin_ret2 rfl rfl rfl ?_
  exact ⟨rfl, H1⟩
set_option maxRecDepth 100000 in
set_option maxHeartbeats 4000000 in
theorem flag1_any (gv : Nat) (w0 : World) (hg : w0.heap[gv]? = some (.cells [.bool false].toArray 4 (0, 0))) (A : Option Addr) (b : List UInt8) (c : Nat) (hr : Rd w0 A b.length 1 (u8s b)) (hb : b.length ≤ 211106232532992) :
    Does Tryz.prog 93 #[.slice A b.length c, .pointer (some ⟨gv, 0, none⟩)] w0 (fun r w' => r = .tuple #[.int .i64 ((flagOf b).2.1 : Int), .int .i64 ((flagOf b).2.2 : Int)] ∧ Hp w0 w' [gv] [(some gv, 4, [.bool (flagOf b).1])]) := by
  refine does_of Tryz.func93 Tryz.ntmps93 rfl ?_
  refine nR16 ?_
  have H := Hp.old hg
  refine run_seq ?_
  refine run_region ?_
  refine ops_val (ex_assign rfl) ?_
  refine ops_val (ex_assign rfl) ?_
  refine ops_nil ?_
  refine nR16 ?_
  refine run_seq ?_
  refine run_seq ?_
  refine run_region ?_
  refine ops_val (ex_move rfl) ?_
  refine ops_val (ex_len_slice Tryz.underlying29 rfl) ?_
  refine ops_test (ex_eql rfl rfl) (fun hp7 => ?_) (fun hp7 => ?_)
  · have hb0 : b = [] := List.eq_nil_of_length_eq_zero (by omega)
    subst hb0
    refine ops_nil ?_
    refine nR16 ?_
    refine run_cond_true rfl ?_
    refine run_seq ?_
    refine run_region ?_
    refine ops_val (ex_assign rfl) ?_
    refine ops_val (ex_assign rfl) ?_
    refine ops_nil ?_
    refine nR16 ?_
    refine run_ret ?_
    refine fin_ret2 rfl rfl rfl ?_
    exact ⟨rfl, H⟩
  · obtain ⟨x, t, rfl⟩ : ∃ x t, b = x :: t := by cases b with
      | nil => exact absurd rfl hp7
      | cons x t => exact ⟨x, t, rfl⟩
    obtain ⟨a, rfl⟩ := hr.some_ (by simp)
    have hx := hr.cells a rfl 0 _ (u8s_get (by simp))
    have hx2 : w0.cell? (a.add 0) = some (.int .u8 (x.toNat : Int)) := hx
    refine ops_nil ?_
    refine nR16 ?_
    refine run_cond_false rfl ?_
    refine run_skip ?_
    refine run_seq ?_
    refine run_seq ?_
    refine run_region ?_
    refine ops_val (ex_move rfl) ?_
    refine ops_val (ex_idx Tryz.underlying29 ty5 rfl rfl (i := 0) rfl (by simp) (Nat.zero_mul _)) ?_
    refine ops_val (ex_load ty5 rfl (hx2)) ?_
    refine ops_test (ex_gtr rfl rfl) (fun hp11 => ?_) (fun hp11 => ?_)
    · have hf : flagOf (x :: t) = (false, 0, 21) := if_pos (by omega)
      refine ops_nil ?_
      refine nR16 ?_
      refine run_cond_true rfl ?_
      refine run_seq ?_
      refine run_region ?_
      refine ops_val (ex_assign rfl) ?_
      refine ops_val (ex_assign rfl) ?_
      refine ops_nil ?_
      refine nR16 ?_
      refine run_ret ?_
      refine fin_ret2 rfl rfl rfl ?_
      rw [hf]
      exact ⟨rfl, H⟩
    · have hf : flagOf (x :: t) = (decide (x.toNat = 1), 1, 0) := if_neg (by omega)
      have hd : decide (((x.toNat : Nat) : Int) = 1) = decide (x.toNat = 1) := decide_eq_decide.2 (by omega)
      refine ops_nil ?_
      refine nR16 ?_
      refine run_cond_false rfl ?_
      refine run_skip ?_
      refine run_seq ?_
      refine run_region ?_
      refine ops_val (ex_move rfl) ?_
      refine ops_val (ex_idx Tryz.underlying29 ty5 rfl rfl (i := 0) rfl (by simp) (Nat.zero_mul _)) ?_
      refine ops_val (ex_load ty5 rfl (hx2)) ?_
      refine ops_val (ex_eql rfl rfl) ?_
      refine nO16 ?_
      refine ops_store1 ty4 H 0 rfl rfl rfl rfl (by first | decide | simp) rfl ?_
      intro w1 H1
      refine ops_nil ?_
      refine nR16 ?_
      refine run_seq ?_
      refine run_region ?_
      refine ops_val (ex_assign rfl) ?_
      refine ops_val (ex_assign rfl) ?_
      refine ops_nil ?_
      refine nR16 ?_
      refine run_ret ?_
      refine fin_ret2 rfl rfl rfl ?_
      rw [hf]
      rw [hd] at H1
      exact ⟨rfl, H1⟩
set_option maxRecDepth 100000 in
set_option maxHeartbeats 4000000 in
theorem count1_any (gv : Nat) (w0 : World) (hg : w0.heap[gv]? = some (.cells [.int .i64 0].toArray 3 (0, 0))) (gm : Nat) (most : Int) (hgm : w0.heap[gm]? = some (.cells [Value.int .i64 most].toArray 3 (0, 0))) (hlo : -9223372036854775808 ≤ most) (hhi : most ≤ 9223372036854775807) (A : Option Addr) (b : List UInt8) (c : Nat) (hr : Rd w0 A b.length 1 (u8s b)) (hb : b.length ≤ 211106232532992) :
    Does Tryz.prog 94 #[.slice A b.length c, .pointer (some ⟨gm, 0, none⟩), .pointer (some ⟨gv, 0, none⟩)] w0 (fun r w' => r = .tuple #[.int .i64 ((countedOf b most).2.1 : Int), .int .i64 ((countedOf b most).2.2 : Int)] ∧ Hp w0 w' [gv] [(some gv, 3, [.int .i64 ((countedOf b most).1 : Int)])]) := by
  refine does_of Tryz.func94 Tryz.ntmps94 rfl ?_
  refine nR15 ?_
  have H := Hp.old hg
  refine run_seq ?_
  refine run_region ?_
  refine ops_val (ex_assign rfl) ?_
  refine ops_val (ex_assign rfl) ?_
  refine ops_nil ?_
  refine nR15 ?_
  refine run_seq ?_
  refine run_region ?_
  refine ops_val (ex_move rfl) ?_
  refine ops_val (ex_load ty3 rfl (show w0.cell? ⟨gm, 0, none⟩ = some (.int .i64 most) by simp [World.cell?, hgm])) ?_
  refine ops_call_eq (ex_call gf95 rfl) (counted_any A b c most _ hr hb hlo hhi) ?_
  refine ops_val (ex_move rfl) ?_
  refine nO15 ?_
  refine ops_val (ex_extract rfl rfl) ?_
  refine ops_val (ex_extract rfl rfl) ?_
  refine ops_val (ex_extract rfl rfl) ?_
  refine ops_store1 ty3 H 0 rfl rfl rfl rfl (by first | decide | simp) rfl ?_
  intro w1 H1
  refine ops_val (ex_assign rfl) ?_
  refine nO15 ?_
  refine ops_val (ex_assign rfl) ?_
  refine ops_nil ?_
  refine nR15 ?_
  refine run_seq ?_
  refine run_region ?_
  refine ops_val (ex_move rfl) ?_
  refine ops_val (ex_move rfl) ?_
  refine ops_val (ex_assign rfl) ?_
  refine ops_val (ex_assign rfl) ?_
  refine ops_nil ?_
  refine nR15 ?_
  refine run_ret ?_
  refine fin_ret2 rfl rfl rfl ?_
  exact ⟨rfl, H1⟩
set_option maxRecDepth 100000 in
set_option maxHeartbeats 4000000 in
theorem text1_any (gv : Nat) (w0 : World) (hg : w0.heap[gv]? = some (.cells [.slice none 0 0].toArray 29 (0, 0))) (gm : Nat) (most : Int) (hgm : w0.heap[gm]? = some (.cells [Value.int .i64 most].toArray 3 (0, 0))) (hlo : -9223372036854775808 ≤ most) (hhi : most ≤ 9223372036854775807) (A : Option Addr) (b : List UInt8) (c : Nat) (hr : Rd w0 A b.length 1 (u8s b)) (hb : b.length ≤ 211106232532992) (hbc : b.length ≤ c) :
    Does Tryz.prog 96 #[.slice A b.length c, .pointer (some ⟨gm, 0, none⟩), .pointer (some ⟨gv, 0, none⟩)] w0 (fun r w' => r = .tuple #[.int .i64 ((textOf b most).2.1 : Int), .int .i64 ((textOf b most).2.2 : Int)] ∧ ∃ g cap sp, (textOf b most).1.length ≤ cap ∧ cap * 1 ≤ (u8s (textOf b most).1 ++ sp).length ∧ (g = none → cap = 0) ∧ Hp w0 w' [gv] [(some gv, 29, [.slice (hd g) (textOf b most).1.length cap]), (g, 5, u8s (textOf b most).1 ++ sp)]) := by
  have hbd := countedOf_bd b most
  refine does_of Tryz.func96 Tryz.ntmps96 rfl ?_
  refine nR38 ?_
  have H := Hp.old hg
  refine run_seq ?_
  refine run_region ?_
  refine ops_val (ex_assign rfl) ?_
  refine ops_val (ex_assign rfl) ?_
  refine ops_nil ?_
  refine nR38 ?_
  refine run_seq ?_
  refine run_region ?_
  refine ops_val (ex_move rfl) ?_
  refine ops_val (ex_load ty3 rfl (show w0.cell? ⟨gm, 0, none⟩ = some (.int .i64 most) by simp [World.cell?, hgm])) ?_
  refine ops_call_eq (ex_call gf95 rfl) (counted_any A b c most _ hr hb hlo hhi) ?_
  refine ops_val (ex_move rfl) ?_
  refine nO38 ?_
  refine ops_val (ex_extract rfl rfl) ?_
  refine ops_val (ex_extract rfl rfl) ?_
  refine ops_val (ex_extract rfl rfl) ?_
  refine ops_val (ex_assign rfl) ?_
  refine nO38 ?_
  refine ops_val (ex_assign rfl) ?_
  refine ops_val (ex_assign rfl) ?_
  refine ops_nil ?_
  refine nR38 ?_
  refine run_seq ?_
  refine run_seq ?_
  refine run_region ?_
  refine ops_val (ex_move rfl) ?_
  refine ops_test (ex_neq rfl rfl) (fun hp17 => ?_) (fun hp17 => ?_)
  · have ht : textOf b most = ([], 0, (countedOf b most).2.2) := if_pos (by omega)
    refine ops_nil ?_
    refine nR38 ?_
    refine run_cond_true rfl ?_
    refine run_seq ?_
    refine run_region ?_
    refine ops_val (ex_move rfl) ?_
    refine ops_val (ex_assign rfl) ?_
    refine ops_val (ex_assign rfl) ?_
    refine ops_nil ?_
    refine nR38 ?_
    refine run_ret ?_
    refine fin_ret2 rfl rfl rfl ?_
    rw [ht]
    exact ⟨rfl, none, 0, [], Nat.le_refl _, by simp, fun _ => rfl, H.nil 5⟩
  · have h0 : (countedOf b most).2.2 = 0 := by omega
    refine ops_nil ?_
    refine nR38 ?_
    refine run_cond_false rfl ?_
    refine run_skip ?_
    refine run_seq ?_
    refine run_seq ?_
    refine run_region ?_
    refine ops_val (ex_move rfl) ?_
    refine ops_val (ex_len_slice Tryz.underlying29 rfl) ?_
    refine ops_val (ex_move rfl) ?_
    refine ops_val (ex_sub rfl rfl (IntWalk.i64_in _ (by omega))) ?_
    refine nO38 ?_
    refine ops_val (ex_move rfl) ?_
    refine ops_test (ex_lss rfl rfl) (fun hp24 => ?_) (fun hp24 => ?_)
    · have ht : textOf b most = ([], 0, 20) := (if_neg (by omega)).trans (if_pos (by omega))
      refine ops_nil ?_
      refine nR38 ?_
      refine run_cond_true rfl ?_
      refine run_seq ?_
      refine run_region ?_
      refine ops_val (ex_assign rfl) ?_
      refine ops_val (ex_assign rfl) ?_
      refine ops_nil ?_
      refine nR38 ?_
      refine run_ret ?_
      refine fin_ret2 rfl rfl rfl ?_
      rw [ht]
      exact ⟨rfl, none, 0, [], Nat.le_refl _, by simp, fun _ => rfl, H.nil 5⟩
    · have ht : textOf b most = ((b.drop (countedOf b most).2.1).take (countedOf b most).1, (countedOf b most).2.1 + (countedOf b most).1, 0) := (if_neg (by omega)).trans (if_neg (by omega))
      have hle : (countedOf b most).2.1 + (countedOf b most).1 ≤ b.length := by omega
      have hrm := hr.mid hle
      have hlm : ((b.drop (countedOf b most).2.1).take (countedOf b most).1).length = (countedOf b most).1 := by rw [List.length_take, List.length_drop]; omega
      have e1 : (((countedOf b most).2.1 : Nat) : Int) + (((countedOf b most).1 : Nat) : Int) = (((countedOf b most).2.1 + (countedOf b most).1 : Nat) : Int) := by omega
      refine ops_nil ?_
      refine nR38 ?_
      refine run_cond_false rfl ?_
      refine run_skip ?_
      refine run_seq ?_
      refine run_region ?_
      refine ops_val (ex_move rfl) ?_
      refine ops_val (ex_move rfl) ?_
      refine ops_val (ex_move rfl) ?_
      refine ops_val (ex_move rfl) ?_
      refine nO38 ?_
      refine ops_val (ex_add rfl rfl ((IntWalk.i64_in _ (by omega)).trans e1)) ?_
      refine ops_val (ex_move rfl) ?_
      refine ops_val (ex_move rfl) ?_
      refine ops_val (ex_add rfl rfl ((IntWalk.i64_in _ (by omega)).trans e1)) ?_
      refine nO38 ?_
      refine ops_val (ex_cut3s Tryz.underlying29 ty5 (lo := (countedOf b most).2.1) (hi := (countedOf b most).2.1 + (countedOf b most).1) (mx := (countedOf b most).2.1 + (countedOf b most).1) (n := ((b.drop (countedOf b most).2.1).take (countedOf b most).1).length) (m := ((b.drop (countedOf b most).2.1).take (countedOf b most).1).length) rfl rfl rfl rfl (by omega) (by omega) (by omega)) ?_
      refine ops_call_own (ex_call gf88 rfl) (clone_any _ _ _ _ hrm (by omega)) ?_
      intro w1 g1 c1 sp1 hm1 hc1 hg1 Hc
      have H1 := (H.call0 Hc)
      refine ops_store1 ty29 H1 0 rfl rfl rfl rfl (by first | decide | simp) rfl ?_
      intro w2 H2
      refine ops_nil ?_
      refine nR38 ?_
      refine run_seq ?_
      refine run_region ?_
      refine ops_val (ex_move rfl) ?_
      refine ops_val (ex_move rfl) ?_
      refine ops_val (ex_add rfl rfl ((IntWalk.i64_in _ (by omega)).trans e1)) ?_
      refine ops_val (ex_assign rfl) ?_
      refine nO38 ?_
      refine ops_val (ex_assign rfl) ?_
      refine ops_nil ?_
      refine nR38 ?_
      refine run_ret ?_
      refine fin_ret2 rfl rfl rfl ?_
      rw [ht]
      exact ⟨rfl, g1, c1, sp1, hm1, hc1, hg1, H2⟩
set_option maxRecDepth 100000 in
set_option maxHeartbeats 4000000 in
theorem thing_nil (v : Value) (w0 : World) :
    Does Tryz.prog 92 #[.pointer none, v] w0 (fun r w' => r = .bool false ∧ w' = w0) := by
  refine does_of Tryz.func92 Tryz.ntmps92 rfl ?_
  refine nR54 ?_
  have H := Hp.refl w0
  refine run_seq ?_
  refine run_region ?_
  refine ops_val (ex_assign rfl) ?_
  refine ops_nil ?_
  refine nR54 ?_
  refine run_seq ?_
  refine run_seq ?_
  refine run_region ?_
  refine ops_val (ex_move rfl) ?_
  refine ops_true (ex_eql_nil_ptr Tryz.underlying78 rfl) (rfl) ?_
  refine ops_val (ex_move rfl) ?_
  refine nO54 ?_
  refine ops_no rfl ?_
  refine ops_no rfl ?_
  refine nO54 ?_
  refine ops_no rfl ?_
  refine ops_no rfl ?_
  refine nO54 ?_
  refine ops_no rfl ?_
  refine ops_val (ex_pick_t rfl rfl) ?_
  refine ops_nil ?_
  refine nR54 ?_
  refine run_cond_true rfl ?_
  refine run_seq ?_
  refine run_region ?_
  refine ops_val (ex_assign rfl) ?_
  refine ops_nil ?_
  refine nR54 ?_
  refine run_ret ?_
  refine fin_ret1 rfl rfl ?_
  exact ⟨rfl, rfl⟩
set_option maxRecDepth 100000 in
set_option maxHeartbeats 4000000 in
theorem thing_bad (v : Value) (gr : Nat) (A : Option Addr) (c : Nat) (b : List UInt8) (i e : Nat) (w0 : World) (hR : Rdr w0 gr A c b i e) (he : e ≠ 0) :
    Does Tryz.prog 92 #[.pointer (some ⟨gr, 0, none⟩), v] w0 (fun r w' => r = .bool false ∧ w' = w0) := by
  refine does_of Tryz.func92 Tryz.ntmps92 rfl ?_
  refine nR54 ?_
  have H := Hp.old hR.row
  have hle := hR.le
  have hln := hR.len
  have hcp := hR.cap
  refine run_seq ?_
  refine run_region ?_
  refine ops_val (ex_assign rfl) ?_
  refine ops_nil ?_
  refine nR54 ?_
  refine run_seq ?_
  refine run_seq ?_
  refine run_region ?_
  refine ops_val (ex_move rfl) ?_
  refine ops_false (ex_eql_nil_ptr Tryz.underlying78 rfl) (by simp) ?_
  refine ops_val (ex_move rfl) ?_
  refine nO54 ?_
  refine ops_yes rfl ?_
  refine ops_val (ex_move rfl) ?_
  refine ops_yes rfl ?_
  refine ops_val (ex_nilCheck rfl) ?_
  refine nO54 ?_
  refine ops_yes rfl ?_
  refine ops_val (ex_fieldAddr fl159_2 rfl) ?_
  refine ops_yes rfl ?_
  refine ops_val (ex_load ty32 rfl (H.cell (i := 0) rfl rfl)) ?_
  refine nO54 ?_
  refine ops_yes rfl ?_
  refine ops_true (ex_neq rfl rfl) (by omega) ?_
  refine ops_val (ex_pick_f rfl rfl) ?_
  refine ops_nil ?_
  refine nR54 ?_
  refine run_cond_true rfl ?_
  refine run_seq ?_
  refine run_region ?_
  refine ops_val (ex_assign rfl) ?_
  refine ops_nil ?_
  refine nR54 ?_
  refine run_ret ?_
  refine fin_ret1 rfl rfl ?_
  exact ⟨rfl, rfl⟩
set_option maxRecDepth 100000 in
set_option maxHeartbeats 4000000 in
theorem thing_go (gr : Nat) (A : Option Addr) (c : Nat) (b : List UInt8) (i e : Nat) (w0 : World) (hR : Rdr w0 gr A c b i e) (he : e = 0) (fc : FuncId) (cap : List Value) (hf : goFn Tryz.prog fc = true) (R : Nat → Nat → World → Prop) (hc : ∀ w1, Hp w0 w1 [] [] → Does Tryz.prog fc (.slice (cutAddr A i b.length 1) (b.drop i).length (b.drop i).length :: cap).toArray w1 (fun r w2 => ∃ k f : Nat, r = .tuple #[.int .i64 k, .int .i64 f] ∧ R k f w2)) (hrow : ∀ k f w2, R k f w2 → w2.heap[gr]? = some (.cells (rc A b c i e).toArray 159 (0, 0))) (hle2 : ∀ k f w2, R k f w2 → i + k ≤ b.length ∧ f < 100) (hz : ∀ k f w2, R k f w2 → f ≠ 0 → k = 0) :
    Does Tryz.prog 92 #[.pointer (some ⟨gr, 0, none⟩), .func (.func fc) #[] cap.toArray] w0 (fun r w' => ∃ k f w2, R k f w2 ∧ r = .bool (decide (f = 0)) ∧ Hp w2 w' [gr] [(some gr, 159, rc A b c (i + k) f)]) := by
  refine does_of Tryz.func92 Tryz.ntmps92 rfl ?_
  refine nR54 ?_
  have H := Hp.old hR.row
  have hle := hR.le
  have hln := hR.len
  have hcp := hR.cap
  refine run_seq ?_
  refine run_region ?_
  refine ops_val (ex_assign rfl) ?_
  refine ops_nil ?_
  refine nR54 ?_
  refine run_seq ?_
  refine run_seq ?_
  refine run_region ?_
  refine ops_val (ex_move rfl) ?_
  refine ops_false (ex_eql_nil_ptr Tryz.underlying78 rfl) (by simp) ?_
  refine ops_val (ex_move rfl) ?_
  refine nO54 ?_
  refine ops_yes rfl ?_
  refine ops_val (ex_move rfl) ?_
  refine ops_yes rfl ?_
  refine ops_val (ex_nilCheck rfl) ?_
  refine nO54 ?_
  refine ops_yes rfl ?_
  refine ops_val (ex_fieldAddr fl159_2 rfl) ?_
  refine ops_yes rfl ?_
  refine ops_val (ex_load ty32 rfl (H.cell (i := 0) rfl rfl)) ?_
  refine nO54 ?_
  refine ops_yes rfl ?_
  refine ops_false (ex_neq rfl rfl) (by omega) ?_
  refine ops_val (ex_pick_f rfl rfl) ?_
  refine ops_nil ?_
  refine nR54 ?_
  refine run_cond_false rfl ?_
  refine run_skip ?_
  refine run_seq ?_
  refine run_mid 20 1 mixed (by kernel_rfl) rfl rfl ?_
  rintro w1 hw1
  have H1 := Hp.drew H; rw [← hw1] at H1
  refine still_val (ex_move rfl) ?_
  refine still_val (ex_move rfl) ?_
  refine still_val (ex_nilCheck rfl) ?_
  refine still_val (ex_fieldAddr fl159_0 rfl) ?_
  refine nS54 ?_
  refine still_val (ex_load ty29 rfl (H1.cell (i := 0) rfl rfl)) ?_
  refine still_val (ex_move rfl) ?_
  refine still_val (ex_nilCheck rfl) ?_
  refine still_val (ex_fieldAddr fl159_1 rfl) ?_
  refine nS54 ?_
  refine still_val (ex_load ty3 rfl (H1.cell (i := 0) rfl rfl)) ?_
  refine still_val (ex_move rfl) ?_
  refine still_val (ex_nilCheck rfl) ?_
  refine still_val (ex_fieldAddr fl159_0 rfl) ?_
  refine nS54 ?_
  refine still_val (ex_load ty29 rfl (H1.cell (i := 0) rfl rfl)) ?_
  refine still_val (ex_len_slice Tryz.underlying29 rfl) ?_
  refine still_val (ex_move rfl) ?_
  refine still_val (ex_nilCheck rfl) ?_
  refine nS54 ?_
  refine still_val (ex_fieldAddr fl159_0 rfl) ?_
  refine still_val (ex_load ty29 rfl (H1.cell (i := 0) rfl rfl)) ?_
  refine still_val (ex_len_slice Tryz.underlying29 rfl) ?_
  refine still_val (ex_cut3s Tryz.underlying29 ty5 (lo := i) (hi := b.length) (mx := b.length) (n := (b.drop i).length) (m := (b.drop i).length) rfl rfl rfl rfl (by omega) List.length_drop List.length_drop) ?_
  refine still_nil ?_
  refine ops_call_pair (ex_call_val hf rfl rfl) (hc _ (by rw [hw1]; exact (Hp.refl w0).drew)) ?_
  intro k f w2 hk
  have H2 := Hp.old (hrow k f _ hk)
  have hk1 := hle2 k f _ hk
  have hk2 := hz k f _ hk
  refine nO54 ?_
  refine ops_val (ex_move rfl) ?_
  refine ops_nil ?_
  refine still_val (ex_extract rfl rfl) ?_
  refine still_val (ex_extract rfl rfl) ?_
  refine still_val (ex_assign rfl) ?_
  refine nS54 ?_
  refine still_val (ex_assign rfl) ?_
  refine still_nil ?_
  refine nR54 ?_
  refine run_seq ?_
  refine run_seq ?_
  refine run_region ?_
  refine ops_val (ex_move rfl) ?_
  refine ops_test (ex_neq rfl rfl) (fun hp41 => ?_) (fun hp41 => ?_)
  · skip
    refine ops_nil ?_
    refine nR54 ?_
    refine run_cond_true rfl ?_
    refine run_seq ?_
    refine run_region ?_
    refine ops_val (ex_move rfl) ?_
    refine ops_val (ex_move rfl) ?_
    refine ops_val (ex_nilCheck rfl) ?_
    refine ops_val (ex_fieldAddr fl159_2 rfl) ?_
    refine nO54 ?_
    refine ops_store1 ty32 H2 0 rfl rfl rfl rfl (by first | decide | simp) rfl ?_
    intro w3 H3
    refine ops_nil ?_
    refine nR54 ?_
    refine run_seq ?_
    refine run_region ?_
    refine ops_val (ex_assign rfl) ?_
    refine ops_nil ?_
    refine nR54 ?_
    refine run_ret ?_
    refine fin_ret1 rfl rfl ?_
    refine ⟨k, f, _, hk, by rw [decide_eq_false (by omega)], ?_⟩
    have h0 := hk2 (by omega)
    subst h0
    exact H3
  · have h5 : f = 0 := by omega
    refine ops_nil ?_
    refine nR54 ?_
    refine run_cond_false rfl ?_
    refine run_skip ?_
    refine run_seq ?_
    refine run_region ?_
    refine ops_val (ex_move rfl) ?_
    refine ops_val (ex_nilCheck rfl) ?_
    refine ops_val (ex_fieldAddr fl159_1 rfl) ?_
    refine ops_val (ex_load ty3 rfl (H2.cell (i := 0) rfl rfl)) ?_
    refine nO54 ?_
    refine ops_val (ex_move rfl) ?_
    refine ops_val (ex_add rfl rfl ((IntWalk.i64_in _ (by omega)).trans (show ((i : Int) + (k : Int)) = ((i + k : Nat) : Int) by omega))) ?_
    refine ops_val (ex_nilCheck rfl) ?_
    refine ops_val (ex_fieldAddr fl159_1 rfl) ?_
    refine nO54 ?_
    refine ops_store1 ty3 H2 0 rfl rfl rfl rfl (by first | decide | simp) rfl ?_
    intro w3 H3
    refine ops_nil ?_
    refine nR54 ?_
    refine run_seq ?_
    refine run_region ?_
    refine ops_val (ex_assign rfl) ?_
    refine ops_nil ?_
    refine nR54 ?_
    refine run_ret ?_
    refine fin_ret1 rfl rfl ?_
    refine ⟨k, f, _, hk, by rw [decide_eq_true (by omega)], ?_⟩
    subst h5
    subst he
    exact H3
end Go.Proofs.YtoeobicpdeklaaaGreat
