/- Walks of layer 2, printed by wip/gen/codec.py. -/
import Derived.Test.YtoeobicpdeklaaaWireY8
import Derived.Test.YtoeobicpdeklaaaKeeps
import Derived.Test.YtoeobicpdeklaaaWireJ
namespace Go.Proofs.Ytoeobicpdeklaaa
open Go Go.RowKit
set_option linter.unusedVariables false
attribute [local irreducible] Still Ops Does Cd
set_option maxRecDepth 100000 in
set_option maxHeartbeats 4000000 in
theorem wireKeeps_any (x : thcommand.X) (cells : List Value) (AA : Option Addr) (b : List UInt8) (c : Nat) (w0 : World) (hM : thcommand.M w0 (fun _ => True) x cells) (hsh : Short x) (hr : Rd w0 AA b.length 1 (u8s b)) (hb : b.length ≤ 140737488351232) :
    Does Try.prog 4 #[.agg cells.toArray, .slice AA b.length c] w0 (fun r w' => r = .bool true ∧ Hp w0 w' [] []) := by
  refine does_of Try.func4 Try.ntmps4 rfl ?_
  change Run _ _ _ _ [.agg cells.toArray, .slice AA b.length c, undef, undef, undef, undef, undef, undef, undef, undef, undef, undef, undef, undef, undef, undef, undef, undef, undef, undef, undef, undef, undef, undef, undef, undef, undef, undef, undef, undef, undef, undef, undef, undef, undef, undef, undef, undef, undef, undef, undef, undef, undef, undef, undef, undef, undef, undef, undef, undef, undef, undef, undef, undef, undef, undef, undef, undef, undef, undef, undef, undef, undef, undef, undef, undef, undef, undef, undef, undef, undef, undef, undef, undef, undef, undef, undef, undef, undef, undef, undef, undef, undef, undef, undef, undef, undef, undef, undef, undef, undef, undef, undef, undef, undef, undef, undef, undef, undef, undef, undef, undef, undef, undef, undef, undef, undef, undef, undef, undef, undef, undef, undef, undef, undef, undef, undef, undef, undef, undef, undef, undef, undef, undef, undef, undef, undef, undef, undef, undef, undef, undef, undef, undef, undef, undef, undef, undef, undef, undef, undef, undef, undef, undef] _
  have hlen : cells.length = 25 := thcommand.len hM
  obtain ⟨s, B, k, hx13, hv13, hr13, _⟩ := get_bytes hM 24 rfl
  have hs13 := hsh.get hx13
  have H := Hp.refl w0
  refine run_seq ?_
  refine run_region ?_
  refine ops_box rfl rfl H ?_
  intro w1 g1 H1 hg1
  refine ops_val (ex_assign rfl) ?_
  refine ops_nil ?_
  change Run _ _ _ _ [_, _, _, _, _, _, _, _, _, _, _, _, _, _, _, _, _, _, _, _, _, _, _, _, _, _, _, _, _, _, _, _, _, _, _, _, _, _, _, _, _, _, _, _, _, _, _, _, _, _, _, _, _, _, _, _, _, _, _, _, _, _, _, _, _, _, _, _, _, _, _, _, _, _, _, _, _, _, _, _, _, _, _, _, _, _, _, _, _, _, _, _, _, _, _, _, _, _, _, _, _, _, _, _, _, _, _, _, _, _, _, _, _, _, _, _, _, _, _, _, _, _, _, _, _, _, _, _, _, _, _, _, _, _, _, _, _, _, _, _, _, _, _, _] _
  refine run_seq ?_
  refine run_region ?_
  refine ops_val (ex_loadN ty28 rfl (vs := cells) hlen (H1.cells (i := 0) rfl)) ?_
  refine ops_call (ex_call gf11 rfl) (copyCommand_any x cells _ (thcommand.mono (thcommand.to hM H1 (fun _ _ => by simp)) (fun _ _ => trivial)) hsh) ?_
  rintro _ wB ⟨cells2, rfl, hM2, Hd⟩
  have HA0 := H1.call0 Hd
  have hc13 : wB.cell? ⟨g1, 24, none⟩ = some (.slice B s.length k) := HA0.cell (i := 0) rfl hv13
  have hr13b := hr13.to0 HA0
  have hrb := hr.to0 HA0
  have hlen2 : cells2.length = 25 := thcommand.len hM2
  have hw2 := thcommand.ones hM2
  have H2 := Hp.refl wB
  refine ops_alloc ty28 H2 ?_
  intro w3 gv H3 hgv
  refine ops_store ty28 H3 0 rfl rfl rfl rfl hlen2 (by rw [hlen2]; decide) hw2 ?_
  intro w4 H4
  have hpu0 : putAt [.int .i64 0, .int .i64 0, .int .i64 0, .int .i64 0, .int .i64 0, .int .i64 0, .string .empty, .int .i64 0, .int .i64 0, .int .i64 0, .bool false, .int .i64 0, .string .empty, .string .empty, .int .i64 0, .int .i64 0, .int .i64 0, .int .i64 0, .int .i64 0, .int .i64 0, .string .empty, .string .empty, .int .i64 0, .int .i64 0, .slice none 0 0] 0 cells2 = cells2 := putAt_all hlen2
  rw [hpu0] at H4
  refine ops_nil ?_
  change Run _ _ _ _ [_, _, _, _, _, _, _, _, _, _, _, _, _, _, _, _, _, _, _, _, _, _, _, _, _, _, _, _, _, _, _, _, _, _, _, _, _, _, _, _, _, _, _, _, _, _, _, _, _, _, _, _, _, _, _, _, _, _, _, _, _, _, _, _, _, _, _, _, _, _, _, _, _, _, _, _, _, _, _, _, _, _, _, _, _, _, _, _, _, _, _, _, _, _, _, _, _, _, _, _, _, _, _, _, _, _, _, _, _, _, _, _, _, _, _, _, _, _, _, _, _, _, _, _, _, _, _, _, _, _, _, _, _, _, _, _, _, _, _, _, _, _, _, _] _
  refine run_seq ?_
  refine run_region ?_
  refine ops_val (ex_fieldAddr fl28_13 rfl) ?_
  refine ops_val (ex_load ty26 rfl (cell_to hc13 H4 (by simp))) ?_
  refine ops_call_slice (ex_call gf18 rfl) (own_any B s k _ (hr13b.to0 H4) 71 (by omega)) ?_
  intro w5 gi ci si ⟨hmi, hci, Hd⟩
  have H5 := H4.call0 Hd
  refine ops_val (ex_fieldAddr fl28_13 rfl) ?_
  change Ops _ _ _ _ _ _ [_, _, _, _, _, _, _, _, _, _, _, _, _, _, _, _, _, _, _, _, _, _, _, _, _, _, _, _, _, _, _, _, _, _, _, _, _, _, _, _, _, _, _, _, _, _, _, _, _, _, _, _, _, _, _, _, _, _, _, _, _, _, _, _, _, _, _, _, _, _, _, _, _, _, _, _, _, _, _, _, _, _, _, _, _, _, _, _, _, _, _, _, _, _, _, _, _, _, _, _, _, _, _, _, _, _, _, _, _, _, _, _, _, _, _, _, _, _, _, _, _, _, _, _, _, _, _, _, _, _, _, _, _, _, _, _, _, _, _, _, _, _, _, _] _
  refine ops_store1 ty26 H5 0 rfl rfl rfl rfl (by rw [hlen2]; decide) rfl ?_
  intro w6 H6
  obtain ⟨cv, hcv⟩ : ∃ l, cells2.set 24 (.slice (hd gi) s.length ci) = l := ⟨_, rfl⟩
  have hlcv : cv.length = 25 := by rw [← hcv, List.length_set]; exact hlen2
  have hcv13 : cv[24]? = some (.slice (hd gi) s.length ci) := by rw [← hcv]; exact List.getElem?_set_self (by omega)
  have HN := (show ∀ (wa wb : World) (SS : List Nat), Hp wa wb SS _ → Hp wa wb SS [(some gv, 28, cells2.set 24 (.slice (hd gi) s.length ci)), (gi, 5, u8s (s ++ [71, 71]) ++ si)] from fun _ _ _ h => h) _ _ _ H6
  rw [hcv] at HN
  replace H6 := HN
  refine ops_nil ?_
  change Run _ _ _ _ [_, _, _, _, _, _, _, _, _, _, _, _, _, _, _, _, _, _, _, _, _, _, _, _, _, _, _, _, _, _, _, _, _, _, _, _, _, _, _, _, _, _, _, _, _, _, _, _, _, _, _, _, _, _, _, _, _, _, _, _, _, _, _, _, _, _, _, _, _, _, _, _, _, _, _, _, _, _, _, _, _, _, _, _, _, _, _, _, _, _, _, _, _, _, _, _, _, _, _, _, _, _, _, _, _, _, _, _, _, _, _, _, _, _, _, _, _, _, _, _, _, _, _, _, _, _, _, _, _, _, _, _, _, _, _, _, _, _, _, _, _, _, _, _] _
  refine run_seq ?_
  refine run_region ?_
  refine ops_val (ex_loadN ty28 rfl (vs := cv) hlcv (H6.cells (i := 0) rfl)) ?_
  refine ops_call_wr (ex_call gf10 rfl) (show Does _ _ _ _ (fun r w' => WrRes _ w' r (wAll (thcommand.fl x) W0)) from command_wr x cv _ (show thcommand.M w6 (fun _ => True) x cv from ⟨hM2.1, by rw [← hcv]; exact set_bytes (FPs.mono (thcommand.to hM2 H6 (fun _ _ => by simp)).2 (fun _ _ => trivial)) hx13 (own_rd (m := [71, 71]) H6 (i := 1) rfl)⟩)) ?_
  intro w7 ga1 ca1 sa1 qa1 qb1 qc1 qd1 Hd
  obtain ⟨o1, ho1⟩ : ∃ o, outOf (wAll (thcommand.fl x) W0) = o := ⟨_, rfl⟩
  rw [ho1] at qa1 qb1 qd1 Hd ⊢
  have H7 := H6.call0 Hd
  refine ops_val (ex_move rfl) ?_
  refine ops_val (ex_extract rfl rfl) ?_
  change Ops _ _ _ _ _ _ [_, _, _, _, _, _, _, _, _, _, _, _, _, _, _, _, _, _, _, _, _, _, _, _, _, _, _, _, _, _, _, _, _, _, _, _, _, _, _, _, _, _, _, _, _, _, _, _, _, _, _, _, _, _, _, _, _, _, _, _, _, _, _, _, _, _, _, _, _, _, _, _, _, _, _, _, _, _, _, _, _, _, _, _, _, _, _, _, _, _, _, _, _, _, _, _, _, _, _, _, _, _, _, _, _, _, _, _, _, _, _, _, _, _, _, _, _, _, _, _, _, _, _, _, _, _, _, _, _, _, _, _, _, _, _, _, _, _, _, _, _, _, _, _] _
  refine ops_val (ex_extract rfl rfl) ?_
  refine ops_val (ex_assign rfl) ?_
  refine ops_val (ex_assign rfl) ?_
  refine ops_nil ?_
  change Run _ _ _ _ [_, _, _, _, _, _, _, _, _, _, _, _, _, _, _, _, _, _, _, _, _, _, _, _, _, _, _, _, _, _, _, _, _, _, _, _, _, _, _, _, _, _, _, _, _, _, _, _, _, _, _, _, _, _, _, _, _, _, _, _, _, _, _, _, _, _, _, _, _, _, _, _, _, _, _, _, _, _, _, _, _, _, _, _, _, _, _, _, _, _, _, _, _, _, _, _, _, _, _, _, _, _, _, _, _, _, _, _, _, _, _, _, _, _, _, _, _, _, _, _, _, _, _, _, _, _, _, _, _, _, _, _, _, _, _, _, _, _, _, _, _, _, _, _] _
  refine run_seq ?_
  refine run_region ?_
  refine ops_val (ex_loadN ty28 rfl (vs := cv) hlcv (H7.cells (i := 0) rfl)) ?_
  refine ops_call_wr (ex_call gf10 rfl) (show Does _ _ _ _ (fun r w' => WrRes _ w' r (wAll (thcommand.fl x) W0)) from command_wr x cv _ (show thcommand.M w7 (fun _ => True) x cv from ⟨hM2.1, by rw [← hcv]; exact set_bytes (FPs.mono (thcommand.to hM2 H7 (fun _ _ => by simp)).2 (fun _ _ => trivial)) hx13 (own_rd (m := [71, 71]) H7 (i := 1) rfl)⟩)) ?_
  intro w8 ga2 ca2 sa2 qa2 qb2 qc2 qd2 Hd
  rw [ho1] at qa2 qb2 qd2 Hd ⊢
  have H8 := H7.call0 Hd
  refine ops_val (ex_move rfl) ?_
  refine ops_val (ex_extract rfl rfl) ?_
  change Ops _ _ _ _ _ _ [_, _, _, _, _, _, _, _, _, _, _, _, _, _, _, _, _, _, _, _, _, _, _, _, _, _, _, _, _, _, _, _, _, _, _, _, _, _, _, _, _, _, _, _, _, _, _, _, _, _, _, _, _, _, _, _, _, _, _, _, _, _, _, _, _, _, _, _, _, _, _, _, _, _, _, _, _, _, _, _, _, _, _, _, _, _, _, _, _, _, _, _, _, _, _, _, _, _, _, _, _, _, _, _, _, _, _, _, _, _, _, _, _, _, _, _, _, _, _, _, _, _, _, _, _, _, _, _, _, _, _, _, _, _, _, _, _, _, _, _, _, _, _, _] _
  refine ops_val (ex_extract rfl rfl) ?_
  refine ops_val (ex_assign rfl) ?_
  refine ops_val (ex_assign rfl) ?_
  refine ops_nil ?_
  change Run _ _ _ _ [_, _, _, _, _, _, _, _, _, _, _, _, _, _, _, _, _, _, _, _, _, _, _, _, _, _, _, _, _, _, _, _, _, _, _, _, _, _, _, _, _, _, _, _, _, _, _, _, _, _, _, _, _, _, _, _, _, _, _, _, _, _, _, _, _, _, _, _, _, _, _, _, _, _, _, _, _, _, _, _, _, _, _, _, _, _, _, _, _, _, _, _, _, _, _, _, _, _, _, _, _, _, _, _, _, _, _, _, _, _, _, _, _, _, _, _, _, _, _, _, _, _, _, _, _, _, _, _, _, _, _, _, _, _, _, _, _, _, _, _, _, _, _, _] _
  refine run_seq ?_
  refine run_seq ?_
  refine run_region ?_
  refine ops_call_val (ex_call gf15 rfl) (awake3_any _) ?_
  intro w9 Hd
  have H9 := (H8.call0 Hd).pick [0, 1, 2, 3] (by decide)
  refine ops_val (ex_not rfl) ?_
  refine ops_val (ex_move rfl) ?_
  change Ops _ _ _ _ _ _ [_, _, _, _, _, _, _, _, _, _, _, _, _, _, _, _, _, _, _, _, _, _, _, _, _, _, _, _, _, _, _, _, _, _, _, _, _, _, _, _, _, _, _, _, _, _, _, _, _, _, _, _, _, _, _, _, _, _, _, _, _, _, _, _, _, _, _, _, _, _, _, _, _, _, _, _, _, _, _, _, _, _, _, _, _, _, _, _, _, _, _, _, _, _, _, _, _, _, _, _, _, _, _, _, _, _, _, _, _, _, _, _, _, _, _, _, _, _, _, _, _, _, _, _, _, _, _, _, _, _, _, _, _, _, _, _, _, _, _, _, _, _, _, _] _
  refine ops_yes rfl ?_
  refine ops_val (ex_fieldAddr fl28_13 rfl) ?_
  refine ops_yes rfl ?_
  refine ops_val (ex_load ty26 rfl (H9.cell (i := 0) rfl hcv13)) ?_
  change Ops _ _ _ _ _ _ [_, _, _, _, _, _, _, _, _, _, _, _, _, _, _, _, _, _, _, _, _, _, _, _, _, _, _, _, _, _, _, _, _, _, _, _, _, _, _, _, _, _, _, _, _, _, _, _, _, _, _, _, _, _, _, _, _, _, _, _, _, _, _, _, _, _, _, _, _, _, _, _, _, _, _, _, _, _, _, _, _, _, _, _, _, _, _, _, _, _, _, _, _, _, _, _, _, _, _, _, _, _, _, _, _, _, _, _, _, _, _, _, _, _, _, _, _, _, _, _, _, _, _, _, _, _, _, _, _, _, _, _, _, _, _, _, _, _, _, _, _, _, _, _] _
  refine ops_yes rfl ?_
  refine ops_val (ex_fieldAddr fl28_13 rfl) ?_
  refine ops_yes rfl ?_
  refine ops_val (ex_load ty26 rfl (cell_to hc13 H9 (by simp))) ?_
  change Ops _ _ _ _ _ _ [_, _, _, _, _, _, _, _, _, _, _, _, _, _, _, _, _, _, _, _, _, _, _, _, _, _, _, _, _, _, _, _, _, _, _, _, _, _, _, _, _, _, _, _, _, _, _, _, _, _, _, _, _, _, _, _, _, _, _, _, _, _, _, _, _, _, _, _, _, _, _, _, _, _, _, _, _, _, _, _, _, _, _, _, _, _, _, _, _, _, _, _, _, _, _, _, _, _, _, _, _, _, _, _, _, _, _, _, _, _, _, _, _, _, _, _, _, _, _, _, _, _, _, _, _, _, _, _, _, _, _, _, _, _, _, _, _, _, _, _, _, _, _, _] _
  refine ops_yes rfl ?_
  refine ops_call_val (ex_call gf19 rfl) (kept_any (hd gi) B s ci k 71 _ (H9.rd (i := 1) (xs := u8s (s ++ [71, 71])) (sp := si) rfl (u8s_length1 _) (by decide)) (hr13b.to0 H9) hmi (by omega)) ?_
  intro w10 Hd
  have H10 := (H9.call0 Hd).pick [0, 1, 2, 3] (by decide)
  refine ops_yes rfl ?_
  refine ops_val (ex_not rfl) ?_
  refine ops_val (ex_pick_f rfl rfl) ?_
  refine ops_val (ex_move rfl) ?_
  change Ops _ _ _ _ _ _ [_, _, _, _, _, _, _, _, _, _, _, _, _, _, _, _, _, _, _, _, _, _, _, _, _, _, _, _, _, _, _, _, _, _, _, _, _, _, _, _, _, _, _, _, _, _, _, _, _, _, _, _, _, _, _, _, _, _, _, _, _, _, _, _, _, _, _, _, _, _, _, _, _, _, _, _, _, _, _, _, _, _, _, _, _, _, _, _, _, _, _, _, _, _, _, _, _, _, _, _, _, _, _, _, _, _, _, _, _, _, _, _, _, _, _, _, _, _, _, _, _, _, _, _, _, _, _, _, _, _, _, _, _, _, _, _, _, _, _, _, _, _, _, _] _
  refine ops_yes rfl ?_
  refine ops_val (ex_move rfl) ?_
  refine ops_yes rfl ?_
  refine ops_val (ex_move rfl) ?_
  change Ops _ _ _ _ _ _ [_, _, _, _, _, _, _, _, _, _, _, _, _, _, _, _, _, _, _, _, _, _, _, _, _, _, _, _, _, _, _, _, _, _, _, _, _, _, _, _, _, _, _, _, _, _, _, _, _, _, _, _, _, _, _, _, _, _, _, _, _, _, _, _, _, _, _, _, _, _, _, _, _, _, _, _, _, _, _, _, _, _, _, _, _, _, _, _, _, _, _, _, _, _, _, _, _, _, _, _, _, _, _, _, _, _, _, _, _, _, _, _, _, _, _, _, _, _, _, _, _, _, _, _, _, _, _, _, _, _, _, _, _, _, _, _, _, _, _, _, _, _, _, _] _
  refine ops_yes rfl ?_
  have hk := bytes_any (hd ga1) (hd ga2) o1 o1 ca1 ca2 _ (H10.rd (i := 2) (o := ga1) (xs := u8s o1) (sp := sa1) rfl (u8s_length1 _) (by decide)) (H10.rd (i := 3) (o := ga2) (xs := u8s o1) (sp := sa2) rfl (u8s_length1 _) (by decide)) (by omega) (by omega)
  rw [decide_eq_true rfl] at hk
  refine ops_call_val (ex_call gf16 rfl) hk ?_
  intro w11 Hd
  have H11 := (H10.call0 Hd).pick [0, 1, 2, 3] (by decide)
  refine ops_yes rfl ?_
  refine ops_val (ex_not rfl) ?_
  refine ops_val (ex_pick_f rfl rfl) ?_
  refine ops_nil ?_
  change Run _ _ _ _ [_, _, _, _, _, _, _, _, _, _, _, _, _, _, _, _, _, _, _, _, _, _, _, _, _, _, _, _, _, _, _, _, _, _, _, _, _, _, _, _, _, _, _, _, _, _, _, _, _, _, _, _, _, _, _, _, _, _, _, _, _, _, _, _, _, _, _, _, _, _, _, _, _, _, _, _, _, _, _, _, _, _, _, _, _, _, _, _, _, _, _, _, _, _, _, _, _, _, _, _, _, _, _, _, _, _, _, _, _, _, _, _, _, _, _, _, _, _, _, _, _, _, _, _, _, _, _, _, _, _, _, _, _, _, _, _, _, _, _, _, _, _, _, _] _
  refine run_cond_false rfl ?_
  refine run_skip ?_
  refine run_seq ?_
  refine run_seq ?_
  refine run_region ?_
  refine ops_val (ex_assign rfl) ?_
  refine ops_nil ?_
  change Run _ _ _ _ [_, _, _, _, _, _, _, _, _, _, _, _, _, _, _, _, _, _, _, _, _, _, _, _, _, _, _, _, _, _, _, _, _, _, _, _, _, _, _, _, _, _, _, _, _, _, _, _, _, _, _, _, _, _, _, _, _, _, _, _, _, _, _, _, _, _, _, _, _, _, _, _, _, _, _, _, _, _, _, _, _, _, _, _, _, _, _, _, _, _, _, _, _, _, _, _, _, _, _, _, _, _, _, _, _, _, _, _, _, _, _, _, _, _, _, _, _, _, _, _, _, _, _, _, _, _, _, _, _, _, _, _, _, _, _, _, _, _, _, _, _, _, _, _] _
  refine run_block ?_
  refine run_loop (fun n l w => ∃ (q : Nat) (y : Int) (ys : List Value), o1.length - q = n ∧ Fits [some (.agg cells.toArray), some (.slice AA b.length c), some (.pointer (some ⟨g1, 0, none⟩)), none, none, some (.pointer (some ⟨gv, 0, none⟩)), some (.slice (hd ga1) o1.length ca1), some (.int .i64 (errOf (wAll (thcommand.fl x) W0) : Int)), some (.slice (hd ga2) o1.length ca2), some (.int .i64 (errOf (wAll (thcommand.fl x) W0) : Int)), some (.int .i64 y), none, none, none, none, none, none, none, none, none, none, none, none, none, none, none, none, none, none, none, none, none, none, none, none, none, none, none, none, none, none, none, none, none, none, none, none, none, none, none, none, none, none, none, none, none, none, none, none, none, none, none, none, none, none, none, none, none, none, none, none, none, none, none, none, none, none, none, none, none, none, none, none, none, none, none, none, none, none, none, none, none, none, none, none, none, none, none, none, none, none, none, none, none, none, none, none, none, none, none, none, none, none, none, none, none, none, none, none, none, none, none, none, none, none, none, none, none, none, none, none, none, none, none, none, none, none, none, none, none, none, none, none, none] l ∧ y = q ∧ q ≤ o1.length ∧ ys.length = (u8s o1 ++ sa1).length ∧ Hp wB w [] [(some gv, 28, cv), (gi, 5, u8s (s ++ [71, 71]) ++ si), (ga1, 5, ys), (ga2, 5, u8s o1 ++ sa2)]) (o1.length) ?_ ?_
  · exact ⟨0, _, _, rfl, (fs (fs (fs (fn (fn (fs (fs (fs (fs (fs (fs (fn (fn (fn (fn (fn (fn (fn (fn (fn (fn (fn (fn (fn (fn (fn (fn (fn (fn (fn (fn (fn (fn (fn (fn (fn (fn (fn (fn (fn (fn (fn (fn (fn (fn (fn (fn (fn (fn (fn (fn (fn (fn (fn (fn (fn (fn (fn (fn (fn (fn (fn (fn (fn (fn (fn (fn (fn (fn (fn (fn (fn (fn (fn (fn (fn (fn (fn (fn (fn (fn (fn (fn (fn (fn (fn (fn (fn (fn (fn (fn (fn (fn (fn (fn (fn (fn (fn (fn (fn (fn (fn (fn (fn (fn (fn (fn (fn (fn (fn (fn (fn (fn (fn (fn (fn (fn (fn (fn (fn (fn (fn (fn (fn (fn (fn (fn (fn (fn (fn (fn (fn (fn (fn (fn (fn (fn (fn (fn (fn (fn (fn (fn (fn f0)))))))))))))))))))))))))))))))))))))))))))))))))))))))))))))))))))))))))))))))))))))))))))))))))))))))))))))))))))))))))))))))))))))))))))))))), rfl, Nat.zero_le _, rfl, H11⟩
  · rintro n l w12 ⟨q, y, ys, rfl, hfit, rfl, hq, hys, H12⟩
    obtain ⟨j, rfl⟩ := hfit.open
    change Run _ _ _ _ [_, _, _, _, _, _, _, _, _, _, _, _, _, _, _, _, _, _, _, _, _, _, _, _, _, _, _, _, _, _, _, _, _, _, _, _, _, _, _, _, _, _, _, _, _, _, _, _, _, _, _, _, _, _, _, _, _, _, _, _, _, _, _, _, _, _, _, _, _, _, _, _, _, _, _, _, _, _, _, _, _, _, _, _, _, _, _, _, _, _, _, _, _, _, _, _, _, _, _, _, _, _, _, _, _, _, _, _, _, _, _, _, _, _, _, _, _, _, _, _, _, _, _, _, _, _, _, _, _, _, _, _, _, _, _, _, _, _, _, _, _, _, _, _] _
    clear hfit
    refine run_seq ?_
    refine run_seq ?_
    refine run_region ?_
    refine ops_val (ex_move rfl) ?_
    refine ops_val (ex_move rfl) ?_
    refine ops_val (ex_len_slice Try.underlying26 rfl) ?_
    refine ops_test (ex_lss rfl rfl) (fun hp57 => ?_) (fun hp57 => ?_)
    · have hql : q < o1.length := by omega
      obtain ⟨gq, rfl⟩ : ∃ k, ga1 = some k := own_some H12 (i := 2) rfl (by omega)
      refine ops_nil ?_
      change Run _ _ _ _ [_, _, _, _, _, _, _, _, _, _, _, _, _, _, _, _, _, _, _, _, _, _, _, _, _, _, _, _, _, _, _, _, _, _, _, _, _, _, _, _, _, _, _, _, _, _, _, _, _, _, _, _, _, _, _, _, _, _, _, _, _, _, _, _, _, _, _, _, _, _, _, _, _, _, _, _, _, _, _, _, _, _, _, _, _, _, _, _, _, _, _, _, _, _, _, _, _, _, _, _, _, _, _, _, _, _, _, _, _, _, _, _, _, _, _, _, _, _, _, _, _, _, _, _, _, _, _, _, _, _, _, _, _, _, _, _, _, _, _, _, _, _, _, _] _
      refine run_cond_true rfl ?_
      refine run_skip ?_
      refine run_seq ?_
      refine run_block ?_
      refine run_region ?_
      refine ops_val (ex_move rfl) ?_
      refine ops_val (ex_move rfl) ?_
      refine ops_val (ex_idxN Try.underlying26 ty5 rfl rfl rfl hql) ?_
      refine ops_store1 ty5 H12 2 rfl rfl rfl rfl (by omega) rfl ?_
      intro w13 H13
      refine ops_nil ?_
      change Run _ _ _ _ [_, _, _, _, _, _, _, _, _, _, _, _, _, _, _, _, _, _, _, _, _, _, _, _, _, _, _, _, _, _, _, _, _, _, _, _, _, _, _, _, _, _, _, _, _, _, _, _, _, _, _, _, _, _, _, _, _, _, _, _, _, _, _, _, _, _, _, _, _, _, _, _, _, _, _, _, _, _, _, _, _, _, _, _, _, _, _, _, _, _, _, _, _, _, _, _, _, _, _, _, _, _, _, _, _, _, _, _, _, _, _, _, _, _, _, _, _, _, _, _, _, _, _, _, _, _, _, _, _, _, _, _, _, _, _, _, _, _, _, _, _, _, _, _] _
      refine run_nil (blk_normal ?_)
      refine run_region ?_
      refine ops_val (ex_move rfl) ?_
      refine ops_val (ex_add rfl rfl (IntWalk.i64_in _ (by omega))) ?_
      refine ops_val (ex_assign rfl) ?_
      refine ops_nil ?_
      change Run _ _ _ _ [_, _, _, _, _, _, _, _, _, _, _, _, _, _, _, _, _, _, _, _, _, _, _, _, _, _, _, _, _, _, _, _, _, _, _, _, _, _, _, _, _, _, _, _, _, _, _, _, _, _, _, _, _, _, _, _, _, _, _, _, _, _, _, _, _, _, _, _, _, _, _, _, _, _, _, _, _, _, _, _, _, _, _, _, _, _, _, _, _, _, _, _, _, _, _, _, _, _, _, _, _, _, _, _, _, _, _, _, _, _, _, _, _, _, _, _, _, _, _, _, _, _, _, _, _, _, _, _, _, _, _, _, _, _, _, _, _, _, _, _, _, _, _, _] _
      refine run_nil (rnd_normal ?_)
      exact ⟨o1.length - (q + 1), by omega, q + 1, _, _, rfl, (fs (fs (fs (fn (fn (fs (fs (fs (fs (fs (fs (fn (fn (fn (fn (fn (fn (fn (fn (fn (fn (fn (fn (fn (fn (fn (fn (fn (fn (fn (fn (fn (fn (fn (fn (fn (fn (fn (fn (fn (fn (fn (fn (fn (fn (fn (fn (fn (fn (fn (fn (fn (fn (fn (fn (fn (fn (fn (fn (fn (fn (fn (fn (fn (fn (fn (fn (fn (fn (fn (fn (fn (fn (fn (fn (fn (fn (fn (fn (fn (fn (fn (fn (fn (fn (fn (fn (fn (fn (fn (fn (fn (fn (fn (fn (fn (fn (fn (fn (fn (fn (fn (fn (fn (fn (fn (fn (fn (fn (fn (fn (fn (fn (fn (fn (fn (fn (fn (fn (fn (fn (fn (fn (fn (fn (fn (fn (fn (fn (fn (fn (fn (fn (fn (fn (fn (fn (fn (fn (fn (fn (fn (fn (fn f0)))))))))))))))))))))))))))))))))))))))))))))))))))))))))))))))))))))))))))))))))))))))))))))))))))))))))))))))))))))))))))))))))))))))))))))))), rfl, by omega, by rw [List.length_set]; exact hys, H13⟩
    · skip
      refine ops_nil ?_
      change Run _ _ _ _ [_, _, _, _, _, _, _, _, _, _, _, _, _, _, _, _, _, _, _, _, _, _, _, _, _, _, _, _, _, _, _, _, _, _, _, _, _, _, _, _, _, _, _, _, _, _, _, _, _, _, _, _, _, _, _, _, _, _, _, _, _, _, _, _, _, _, _, _, _, _, _, _, _, _, _, _, _, _, _, _, _, _, _, _, _, _, _, _, _, _, _, _, _, _, _, _, _, _, _, _, _, _, _, _, _, _, _, _, _, _, _, _, _, _, _, _, _, _, _, _, _, _, _, _, _, _, _, _, _, _, _, _, _, _, _, _, _, _, _, _, _, _, _, _] _
      refine run_cond_false rfl ?_
      refine run_exit ?_
      refine rnd_exit ?_
      refine blk_exit ?_
      refine run_seq ?_
      refine run_region ?_
      refine ops_val (ex_loadN ty28 rfl (vs := cv) hlcv (H12.cells (i := 0) rfl)) ?_
      refine ops_call_wr (ex_call gf10 rfl) (show Does _ _ _ _ (fun r w' => WrRes _ w' r (wAll (thcommand.fl x) W0)) from command_wr x cv _ (show thcommand.M w12 (fun _ => True) x cv from ⟨hM2.1, by rw [← hcv]; exact set_bytes (FPs.mono (thcommand.to hM2 H12 (fun _ _ => by simp)).2 (fun _ _ => trivial)) hx13 (own_rd (m := [71, 71]) H12 (i := 1) rfl)⟩)) ?_
      intro w13 ga3 ca3 sa3 qa3 qb3 qc3 qd3 Hd
      rw [ho1] at qa3 qb3 qd3 Hd ⊢
      have H13 := H12.call0 Hd
      refine ops_val (ex_move rfl) ?_
      refine ops_val (ex_extract rfl rfl) ?_
      change Ops _ _ _ _ _ _ [_, _, _, _, _, _, _, _, _, _, _, _, _, _, _, _, _, _, _, _, _, _, _, _, _, _, _, _, _, _, _, _, _, _, _, _, _, _, _, _, _, _, _, _, _, _, _, _, _, _, _, _, _, _, _, _, _, _, _, _, _, _, _, _, _, _, _, _, _, _, _, _, _, _, _, _, _, _, _, _, _, _, _, _, _, _, _, _, _, _, _, _, _, _, _, _, _, _, _, _, _, _, _, _, _, _, _, _, _, _, _, _, _, _, _, _, _, _, _, _, _, _, _, _, _, _, _, _, _, _, _, _, _, _, _, _, _, _, _, _, _, _, _, _] _
      refine ops_val (ex_extract rfl rfl) ?_
      refine ops_val (ex_assign rfl) ?_
      refine ops_val (ex_assign rfl) ?_
      refine ops_nil ?_
      change Run _ _ _ _ [_, _, _, _, _, _, _, _, _, _, _, _, _, _, _, _, _, _, _, _, _, _, _, _, _, _, _, _, _, _, _, _, _, _, _, _, _, _, _, _, _, _, _, _, _, _, _, _, _, _, _, _, _, _, _, _, _, _, _, _, _, _, _, _, _, _, _, _, _, _, _, _, _, _, _, _, _, _, _, _, _, _, _, _, _, _, _, _, _, _, _, _, _, _, _, _, _, _, _, _, _, _, _, _, _, _, _, _, _, _, _, _, _, _, _, _, _, _, _, _, _, _, _, _, _, _, _, _, _, _, _, _, _, _, _, _, _, _, _, _, _, _, _, _] _
      refine run_seq ?_
      refine run_region ?_
      refine ops_val (ex_move rfl) ?_
      refine ops_call_slice (ex_call gf18 rfl) (own_any AA b c _ (hrb.to0 H13) 72 (by omega)) ?_
      intro w14 gt ct st ⟨hmt, hct, Hd⟩
      have H14 := H13.call0 Hd
      have hl5 : (u8s (b ++ [72, 72]) ++ st).length = b.length + 2 + st.length := by simp [u8s]; omega
      obtain ⟨gq5, rfl⟩ : ∃ k, gt = some k := own_some H14 (i := 5) rfl (by omega)
      refine ops_val (ex_assign rfl) ?_
      refine ops_nil ?_
      change Run _ _ _ _ [_, _, _, _, _, _, _, _, _, _, _, _, _, _, _, _, _, _, _, _, _, _, _, _, _, _, _, _, _, _, _, _, _, _, _, _, _, _, _, _, _, _, _, _, _, _, _, _, _, _, _, _, _, _, _, _, _, _, _, _, _, _, _, _, _, _, _, _, _, _, _, _, _, _, _, _, _, _, _, _, _, _, _, _, _, _, _, _, _, _, _, _, _, _, _, _, _, _, _, _, _, _, _, _, _, _, _, _, _, _, _, _, _, _, _, _, _, _, _, _, _, _, _, _, _, _, _, _, _, _, _, _, _, _, _, _, _, _, _, _, _, _, _, _] _
      refine run_seq ?_
      refine run_region ?_
      refine ops_val (ex_move rfl) ?_
      have hwa := H14.size
      refine ops_call_rd (ex_call gf13 rfl) (command_rd (hd (some gq5)) b ct _ (own_rd (m := [72, 72]) H14 (i := 5) rfl) (by omega)) ?_
      intro w15 cr1 hR1 Hd
      replace hR1 := rebase (A := thcommand) H14 hR1
      obtain ⟨na, hna⟩ : ∃ m, w14.heap.size = m := ⟨_, rfl⟩
      rw [hna] at hR1 hwa
      have hk1 : cr1.length = 25 := thcommand.len hR1
      have hw1 := thcommand.ones hR1
      have HA1 := (H14.call0 Hd).pick [0, 1, 2, 3, 4, 5] (by decide)
      have H15 := HA1.here
      refine ops_val (ex_move rfl) ?_
      refine ops_val (ex_extract rfl rfl) ?_
      change Ops _ _ _ _ _ _ [_, _, _, _, _, _, _, _, _, _, _, _, _, _, _, _, _, _, _, _, _, _, _, _, _, _, _, _, _, _, _, _, _, _, _, _, _, _, _, _, _, _, _, _, _, _, _, _, _, _, _, _, _, _, _, _, _, _, _, _, _, _, _, _, _, _, _, _, _, _, _, _, _, _, _, _, _, _, _, _, _, _, _, _, _, _, _, _, _, _, _, _, _, _, _, _, _, _, _, _, _, _, _, _, _, _, _, _, _, _, _, _, _, _, _, _, _, _, _, _, _, _, _, _, _, _, _, _, _, _, _, _, _, _, _, _, _, _, _, _, _, _, _, _] _
      refine ops_val (ex_extract rfl rfl) ?_
      refine ops_alloc ty28 H15 ?_
      intro w16 gk1 H16 hgk1
      refine ops_store ty28 H16 6 rfl rfl rfl rfl hk1 (by rw [hk1]; decide) hw1 ?_
      intro w17 H17
      have hpu1 : putAt [.int .i64 0, .int .i64 0, .int .i64 0, .int .i64 0, .int .i64 0, .int .i64 0, .string .empty, .int .i64 0, .int .i64 0, .int .i64 0, .bool false, .int .i64 0, .string .empty, .string .empty, .int .i64 0, .int .i64 0, .int .i64 0, .int .i64 0, .int .i64 0, .int .i64 0, .string .empty, .string .empty, .int .i64 0, .int .i64 0, .slice none 0 0] 0 cr1 = cr1 := putAt_all hk1
      rw [hpu1] at H17
      refine ops_val (ex_assign rfl) ?_
      refine ops_nil ?_
      change Run _ _ _ _ [_, _, _, _, _, _, _, _, _, _, _, _, _, _, _, _, _, _, _, _, _, _, _, _, _, _, _, _, _, _, _, _, _, _, _, _, _, _, _, _, _, _, _, _, _, _, _, _, _, _, _, _, _, _, _, _, _, _, _, _, _, _, _, _, _, _, _, _, _, _, _, _, _, _, _, _, _, _, _, _, _, _, _, _, _, _, _, _, _, _, _, _, _, _, _, _, _, _, _, _, _, _, _, _, _, _, _, _, _, _, _, _, _, _, _, _, _, _, _, _, _, _, _, _, _, _, _, _, _, _, _, _, _, _, _, _, _, _, _, _, _, _, _, _] _
      refine run_seq ?_
      refine run_region ?_
      refine ops_val (ex_move rfl) ?_
      have hR1c := Fr.to (A := thcommand) hR1 H17
      obtain ⟨sm, Bm, km, hxm, hvm, hrm, _⟩ := get_bytes hR1c 24 rfl
      have hsm : sm.length ≤ 140737488351232 := Short.get (got_short (b := b) (by omega)) hxm
      have hltm : 0 < sm.length → ∀ p, Bm = some p → p.block < w17.heap.size := fun h0 p hp => by
        have h1 := World.block_lt_of_cell? _ _ (hrm.cells p hp 0 _ (u8s_get h0))
        rwa [Addr.add_zero'] at h1
      refine ops_call_rd (ex_call gf13 rfl) (command_rd (hd (some gq5)) b ct _ (own_rd (m := [72, 72]) H17 (i := 5) rfl) (by omega)) ?_
      intro wd cr3 hR3 Hd
      replace hR3 := rebase (A := thcommand) H17 hR3
      replace hR1 := Fr.to (A := thcommand) hR1c (H17.here.call0 Hd)
      obtain ⟨nc, hnc⟩ : ∃ m, w17.heap.size = m := ⟨_, rfl⟩
      rw [hnc] at hR3 hltm
      have hk3 : cr3.length = 25 := thcommand.len hR3
      have hw3 := thcommand.ones hR3
      have HA2 := HA1.all ((H17.call0 Hd).pick [0, 1, 2, 3, 4, 5, 6] (by decide))
      have H18 := HA2.here
      refine ops_val (ex_move rfl) ?_
      refine ops_val (ex_extract rfl rfl) ?_
      change Ops _ _ _ _ _ _ [_, _, _, _, _, _, _, _, _, _, _, _, _, _, _, _, _, _, _, _, _, _, _, _, _, _, _, _, _, _, _, _, _, _, _, _, _, _, _, _, _, _, _, _, _, _, _, _, _, _, _, _, _, _, _, _, _, _, _, _, _, _, _, _, _, _, _, _, _, _, _, _, _, _, _, _, _, _, _, _, _, _, _, _, _, _, _, _, _, _, _, _, _, _, _, _, _, _, _, _, _, _, _, _, _, _, _, _, _, _, _, _, _, _, _, _, _, _, _, _, _, _, _, _, _, _, _, _, _, _, _, _, _, _, _, _, _, _, _, _, _, _, _, _] _
      refine ops_val (ex_extract rfl rfl) ?_
      refine ops_alloc ty28 H18 ?_
      intro w19 gk3 H19 hgk3
      refine ops_store ty28 H19 7 rfl rfl rfl rfl hk3 (by rw [hk3]; decide) hw3 ?_
      intro w20 H20
      have hpu3 : putAt [.int .i64 0, .int .i64 0, .int .i64 0, .int .i64 0, .int .i64 0, .int .i64 0, .string .empty, .int .i64 0, .int .i64 0, .int .i64 0, .bool false, .int .i64 0, .string .empty, .string .empty, .int .i64 0, .int .i64 0, .int .i64 0, .int .i64 0, .int .i64 0, .int .i64 0, .string .empty, .string .empty, .int .i64 0, .int .i64 0, .slice none 0 0] 0 cr3 = cr3 := putAt_all hk3
      rw [hpu3] at H20
      refine ops_val (ex_assign rfl) ?_
      refine ops_nil ?_
      change Run _ _ _ _ [_, _, _, _, _, _, _, _, _, _, _, _, _, _, _, _, _, _, _, _, _, _, _, _, _, _, _, _, _, _, _, _, _, _, _, _, _, _, _, _, _, _, _, _, _, _, _, _, _, _, _, _, _, _, _, _, _, _, _, _, _, _, _, _, _, _, _, _, _, _, _, _, _, _, _, _, _, _, _, _, _, _, _, _, _, _, _, _, _, _, _, _, _, _, _, _, _, _, _, _, _, _, _, _, _, _, _, _, _, _, _, _, _, _, _, _, _, _, _, _, _, _, _, _, _, _, _, _, _, _, _, _, _, _, _, _, _, _, _, _, _, _, _, _] _
      refine run_seq ?_
      refine run_seq ?_
      refine run_region ?_
      refine ops_val (ex_move rfl) ?_
      refine ops_val (ex_move rfl) ?_
      have hk := bytes_any (hd ga2) (hd ga3) o1 o1 ca2 ca3 _ (H20.rd (i := 3) (o := ga2) (xs := u8s o1) (sp := sa2) rfl (u8s_length1 _) (by decide)) (H20.rd (i := 4) (o := ga3) (xs := u8s o1) (sp := sa3) rfl (u8s_length1 _) (by decide)) (by omega) (by omega)
      rw [decide_eq_true rfl] at hk
      refine ops_call_val (ex_call gf16 rfl) hk ?_
      intro w21 Hd
      have H21 := (H20.call0 Hd).pick [0, 1, 2, 3, 4, 5, 6, 7] (by decide)
      refine ops_val (ex_not rfl) ?_
      change Ops _ _ _ _ _ _ [_, _, _, _, _, _, _, _, _, _, _, _, _, _, _, _, _, _, _, _, _, _, _, _, _, _, _, _, _, _, _, _, _, _, _, _, _, _, _, _, _, _, _, _, _, _, _, _, _, _, _, _, _, _, _, _, _, _, _, _, _, _, _, _, _, _, _, _, _, _, _, _, _, _, _, _, _, _, _, _, _, _, _, _, _, _, _, _, _, _, _, _, _, _, _, _, _, _, _, _, _, _, _, _, _, _, _, _, _, _, _, _, _, _, _, _, _, _, _, _, _, _, _, _, _, _, _, _, _, _, _, _, _, _, _, _, _, _, _, _, _, _, _, _] _
      refine ops_val (ex_move rfl) ?_
      refine ops_yes rfl ?_
      refine ops_val (ex_move rfl) ?_
      change Ops _ _ _ _ _ _ [_, _, _, _, _, _, _, _, _, _, _, _, _, _, _, _, _, _, _, _, _, _, _, _, _, _, _, _, _, _, _, _, _, _, _, _, _, _, _, _, _, _, _, _, _, _, _, _, _, _, _, _, _, _, _, _, _, _, _, _, _, _, _, _, _, _, _, _, _, _, _, _, _, _, _, _, _, _, _, _, _, _, _, _, _, _, _, _, _, _, _, _, _, _, _, _, _, _, _, _, _, _, _, _, _, _, _, _, _, _, _, _, _, _, _, _, _, _, _, _, _, _, _, _, _, _, _, _, _, _, _, _, _, _, _, _, _, _, _, _, _, _, _, _] _
      refine ops_yes rfl ?_
      refine ops_val (ex_move rfl) ?_
      refine ops_yes rfl ?_
      refine ops_call_val (ex_call gf19 rfl) (kept_any (hd (some gq5)) AA b ct c 72 _ (H21.rd (i := 5) (xs := u8s (b ++ [72, 72])) (sp := st) rfl (u8s_length1 _) (by decide)) (hrb.to0 (HA2.all H21)) hmt (by omega)) ?_
      intro w22 Hd
      have H22 := (H21.call0 Hd).pick [0, 1, 2, 3, 4, 5, 6, 7] (by decide)
      change Ops _ _ _ _ _ _ [_, _, _, _, _, _, _, _, _, _, _, _, _, _, _, _, _, _, _, _, _, _, _, _, _, _, _, _, _, _, _, _, _, _, _, _, _, _, _, _, _, _, _, _, _, _, _, _, _, _, _, _, _, _, _, _, _, _, _, _, _, _, _, _, _, _, _, _, _, _, _, _, _, _, _, _, _, _, _, _, _, _, _, _, _, _, _, _, _, _, _, _, _, _, _, _, _, _, _, _, _, _, _, _, _, _, _, _, _, _, _, _, _, _, _, _, _, _, _, _, _, _, _, _, _, _, _, _, _, _, _, _, _, _, _, _, _, _, _, _, _, _, _, _] _
      refine ops_yes rfl ?_
      refine ops_val (ex_not rfl) ?_
      refine ops_val (ex_pick_f rfl rfl) ?_
      refine ops_val (ex_move rfl) ?_
      change Ops _ _ _ _ _ _ [_, _, _, _, _, _, _, _, _, _, _, _, _, _, _, _, _, _, _, _, _, _, _, _, _, _, _, _, _, _, _, _, _, _, _, _, _, _, _, _, _, _, _, _, _, _, _, _, _, _, _, _, _, _, _, _, _, _, _, _, _, _, _, _, _, _, _, _, _, _, _, _, _, _, _, _, _, _, _, _, _, _, _, _, _, _, _, _, _, _, _, _, _, _, _, _, _, _, _, _, _, _, _, _, _, _, _, _, _, _, _, _, _, _, _, _, _, _, _, _, _, _, _, _, _, _, _, _, _, _, _, _, _, _, _, _, _, _, _, _, _, _, _, _] _
      refine ops_yes rfl ?_
      refine ops_val (ex_loadN ty28 rfl (vs := cr1) hk1 (H22.cells (i := 6) rfl)) ?_
      refine ops_yes rfl ?_
      refine ops_val (ex_loadN ty28 rfl (vs := cr3) hk3 (H22.cells (i := 7) rfl)) ?_
      change Ops _ _ _ _ _ _ [_, _, _, _, _, _, _, _, _, _, _, _, _, _, _, _, _, _, _, _, _, _, _, _, _, _, _, _, _, _, _, _, _, _, _, _, _, _, _, _, _, _, _, _, _, _, _, _, _, _, _, _, _, _, _, _, _, _, _, _, _, _, _, _, _, _, _, _, _, _, _, _, _, _, _, _, _, _, _, _, _, _, _, _, _, _, _, _, _, _, _, _, _, _, _, _, _, _, _, _, _, _, _, _, _, _, _, _, _, _, _, _, _, _, _, _, _, _, _, _, _, _, _, _, _, _, _, _, _, _, _, _, _, _, _, _, _, _, _, _, _, _, _, _] _
      refine ops_yes rfl ?_
      refine ops_call_val (ex_call gf17 rfl) (scommand_any (gotR thcommand b) cr1 cr3 _ _ _ (Fr.to (A := thcommand) hR1 H22) (Fr.to (A := thcommand) hR3 H22) (got_short (by omega))) ?_
      intro w23 Hd
      have H23 := (H22.call0 Hd).pick [0, 1, 2, 3, 4, 5, 6, 7] (by decide)
      refine ops_yes rfl ?_
      refine ops_val (ex_not rfl) ?_
      refine ops_val (ex_pick_f rfl rfl) ?_
      refine ops_nil ?_
      change Run _ _ _ _ [_, _, _, _, _, _, _, _, _, _, _, _, _, _, _, _, _, _, _, _, _, _, _, _, _, _, _, _, _, _, _, _, _, _, _, _, _, _, _, _, _, _, _, _, _, _, _, _, _, _, _, _, _, _, _, _, _, _, _, _, _, _, _, _, _, _, _, _, _, _, _, _, _, _, _, _, _, _, _, _, _, _, _, _, _, _, _, _, _, _, _, _, _, _, _, _, _, _, _, _, _, _, _, _, _, _, _, _, _, _, _, _, _, _, _, _, _, _, _, _, _, _, _, _, _, _, _, _, _, _, _, _, _, _, _, _, _, _, _, _, _, _, _, _] _
      refine run_cond_false rfl ?_
      refine run_skip ?_
      refine run_seq ?_
      refine run_seq ?_
      refine run_region ?_
      refine ops_val (ex_assign rfl) ?_
      refine ops_nil ?_
      change Run _ _ _ _ [_, _, _, _, _, _, _, _, _, _, _, _, _, _, _, _, _, _, _, _, _, _, _, _, _, _, _, _, _, _, _, _, _, _, _, _, _, _, _, _, _, _, _, _, _, _, _, _, _, _, _, _, _, _, _, _, _, _, _, _, _, _, _, _, _, _, _, _, _, _, _, _, _, _, _, _, _, _, _, _, _, _, _, _, _, _, _, _, _, _, _, _, _, _, _, _, _, _, _, _, _, _, _, _, _, _, _, _, _, _, _, _, _, _, _, _, _, _, _, _, _, _, _, _, _, _, _, _, _, _, _, _, _, _, _, _, _, _, _, _, _, _, _, _] _
      refine run_block ?_
      refine run_loop (fun n l w => ∃ (q2 : Nat) (y2 : Int) (zs2 : List Value), b.length - q2 = n ∧ Fits [some (.agg cells.toArray), some (.slice AA b.length c), some (.pointer (some ⟨g1, 0, none⟩)), none, none, some (.pointer (some ⟨gv, 0, none⟩)), some (.slice (hd ga1) o1.length ca1), some (.int .i64 (errOf (wAll (thcommand.fl x) W0) : Int)), some (.slice (hd ga2) o1.length ca2), some (.int .i64 (errOf (wAll (thcommand.fl x) W0) : Int)), none, some (.slice (hd ga3) o1.length ca3), some (.int .i64 (errOf (wAll (thcommand.fl x) W0) : Int)), some (.slice (hd (some gq5)) b.length ct), some (.pointer (some ⟨gk1, 0, none⟩)), some (.int .i64 (errR thcommand b : Int)), some (.pointer (some ⟨gk3, 0, none⟩)), some (.int .i64 (errR thcommand b : Int)), some (.int .i64 y2), none, none, none, none, none, none, none, none, none, none, none, none, none, none, none, none, none, none, none, none, none, none, none, none, none, none, none, none, none, none, none, none, none, none, none, none, none, none, none, none, none, none, none, none, none, none, none, none, none, none, none, none, none, none, none, none, none, none, none, none, none, none, none, none, none, none, none, none, none, none, none, none, none, none, none, none, none, none, none, none, none, none, none, none, none, none, none, none, none, none, none, none, none, none, none, none, none, none, none, none, none, none, none, none, none, none, none, none, none, none, none, none, none, none, none, none, none, none, none, none, none, none, none, none, none] l ∧ y2 = q2 ∧ q2 ≤ b.length ∧ zs2.length = (u8s (b ++ [72, 72]) ++ st).length ∧ Hp wd w (bl [(some gv, 28, cv), (gi, 5, u8s (s ++ [71, 71]) ++ si), (ga1, 5, ys), (ga2, 5, u8s o1 ++ sa2), (ga3, 5, u8s o1 ++ sa3), (some gq5, 5, u8s (b ++ [72, 72]) ++ st), (some gk1, 28, cr1)]) [(some gv, 28, cv), (gi, 5, u8s (s ++ [71, 71]) ++ si), (ga1, 5, ys), (ga2, 5, u8s o1 ++ sa2), (ga3, 5, u8s o1 ++ sa3), (some gq5, 5, zs2), (some gk1, 28, cr1), (some gk3, 28, cr3)]) (b.length) ?_ ?_
      · exact ⟨0, _, _, rfl, (fs (fs (fs (fn (fn (fs (fs (fs (fs (fs (fn (fs (fs (fs (fs (fs (fs (fs (fs (fn (fn (fn (fn (fn (fn (fn (fn (fn (fn (fn (fn (fn (fn (fn (fn (fn (fn (fn (fn (fn (fn (fn (fn (fn (fn (fn (fn (fn (fn (fn (fn (fn (fn (fn (fn (fn (fn (fn (fn (fn (fn (fn (fn (fn (fn (fn (fn (fn (fn (fn (fn (fn (fn (fn (fn (fn (fn (fn (fn (fn (fn (fn (fn (fn (fn (fn (fn (fn (fn (fn (fn (fn (fn (fn (fn (fn (fn (fn (fn (fn (fn (fn (fn (fn (fn (fn (fn (fn (fn (fn (fn (fn (fn (fn (fn (fn (fn (fn (fn (fn (fn (fn (fn (fn (fn (fn (fn (fn (fn (fn (fn (fn (fn (fn (fn (fn (fn (fn (fn (fn (fn (fn (fn (fn f0)))))))))))))))))))))))))))))))))))))))))))))))))))))))))))))))))))))))))))))))))))))))))))))))))))))))))))))))))))))))))))))))))))))))))))))))), rfl, Nat.zero_le _, rfl, H23⟩
      · rintro n l w24 ⟨q2, y2, zs2, rfl, hfit, rfl, hq2, hzs2, H24⟩
        obtain ⟨j, rfl⟩ := hfit.open
        change Run _ _ _ _ [_, _, _, _, _, _, _, _, _, _, _, _, _, _, _, _, _, _, _, _, _, _, _, _, _, _, _, _, _, _, _, _, _, _, _, _, _, _, _, _, _, _, _, _, _, _, _, _, _, _, _, _, _, _, _, _, _, _, _, _, _, _, _, _, _, _, _, _, _, _, _, _, _, _, _, _, _, _, _, _, _, _, _, _, _, _, _, _, _, _, _, _, _, _, _, _, _, _, _, _, _, _, _, _, _, _, _, _, _, _, _, _, _, _, _, _, _, _, _, _, _, _, _, _, _, _, _, _, _, _, _, _, _, _, _, _, _, _, _, _, _, _, _, _] _
        clear hfit
        refine run_seq ?_
        refine run_seq ?_
        refine run_region ?_
        refine ops_val (ex_move rfl) ?_
        refine ops_val (ex_move rfl) ?_
        refine ops_val (ex_len_slice Try.underlying26 rfl) ?_
        refine ops_test (ex_lss rfl rfl) (fun hp99 => ?_) (fun hp99 => ?_)
        · have hql2 : q2 < b.length := by omega
          refine ops_nil ?_
          change Run _ _ _ _ [_, _, _, _, _, _, _, _, _, _, _, _, _, _, _, _, _, _, _, _, _, _, _, _, _, _, _, _, _, _, _, _, _, _, _, _, _, _, _, _, _, _, _, _, _, _, _, _, _, _, _, _, _, _, _, _, _, _, _, _, _, _, _, _, _, _, _, _, _, _, _, _, _, _, _, _, _, _, _, _, _, _, _, _, _, _, _, _, _, _, _, _, _, _, _, _, _, _, _, _, _, _, _, _, _, _, _, _, _, _, _, _, _, _, _, _, _, _, _, _, _, _, _, _, _, _, _, _, _, _, _, _, _, _, _, _, _, _, _, _, _, _, _, _] _
          refine run_cond_true rfl ?_
          refine run_skip ?_
          refine run_seq ?_
          refine run_block ?_
          refine run_region ?_
          refine ops_val (ex_move rfl) ?_
          refine ops_val (ex_move rfl) ?_
          refine ops_val (ex_idxN Try.underlying26 ty5 rfl rfl rfl hql2) ?_
          refine ops_store1 ty5 H24 5 rfl rfl rfl rfl (by omega) rfl ?_
          intro w25 H25
          refine ops_nil ?_
          change Run _ _ _ _ [_, _, _, _, _, _, _, _, _, _, _, _, _, _, _, _, _, _, _, _, _, _, _, _, _, _, _, _, _, _, _, _, _, _, _, _, _, _, _, _, _, _, _, _, _, _, _, _, _, _, _, _, _, _, _, _, _, _, _, _, _, _, _, _, _, _, _, _, _, _, _, _, _, _, _, _, _, _, _, _, _, _, _, _, _, _, _, _, _, _, _, _, _, _, _, _, _, _, _, _, _, _, _, _, _, _, _, _, _, _, _, _, _, _, _, _, _, _, _, _, _, _, _, _, _, _, _, _, _, _, _, _, _, _, _, _, _, _, _, _, _, _, _, _] _
          refine run_nil (blk_normal ?_)
          refine run_region ?_
          refine ops_val (ex_move rfl) ?_
          refine ops_val (ex_add rfl rfl (IntWalk.i64_in _ (by omega))) ?_
          refine ops_val (ex_assign rfl) ?_
          refine ops_nil ?_
          change Run _ _ _ _ [_, _, _, _, _, _, _, _, _, _, _, _, _, _, _, _, _, _, _, _, _, _, _, _, _, _, _, _, _, _, _, _, _, _, _, _, _, _, _, _, _, _, _, _, _, _, _, _, _, _, _, _, _, _, _, _, _, _, _, _, _, _, _, _, _, _, _, _, _, _, _, _, _, _, _, _, _, _, _, _, _, _, _, _, _, _, _, _, _, _, _, _, _, _, _, _, _, _, _, _, _, _, _, _, _, _, _, _, _, _, _, _, _, _, _, _, _, _, _, _, _, _, _, _, _, _, _, _, _, _, _, _, _, _, _, _, _, _, _, _, _, _, _, _] _
          refine run_nil (rnd_normal ?_)
          exact ⟨b.length - (q2 + 1), by omega, q2 + 1, _, _, rfl, (fs (fs (fs (fn (fn (fs (fs (fs (fs (fs (fn (fs (fs (fs (fs (fs (fs (fs (fs (fn (fn (fn (fn (fn (fn (fn (fn (fn (fn (fn (fn (fn (fn (fn (fn (fn (fn (fn (fn (fn (fn (fn (fn (fn (fn (fn (fn (fn (fn (fn (fn (fn (fn (fn (fn (fn (fn (fn (fn (fn (fn (fn (fn (fn (fn (fn (fn (fn (fn (fn (fn (fn (fn (fn (fn (fn (fn (fn (fn (fn (fn (fn (fn (fn (fn (fn (fn (fn (fn (fn (fn (fn (fn (fn (fn (fn (fn (fn (fn (fn (fn (fn (fn (fn (fn (fn (fn (fn (fn (fn (fn (fn (fn (fn (fn (fn (fn (fn (fn (fn (fn (fn (fn (fn (fn (fn (fn (fn (fn (fn (fn (fn (fn (fn (fn (fn (fn (fn (fn (fn (fn (fn (fn (fn f0)))))))))))))))))))))))))))))))))))))))))))))))))))))))))))))))))))))))))))))))))))))))))))))))))))))))))))))))))))))))))))))))))))))))))))))))), rfl, by omega, by rw [List.length_set]; exact hzs2, H25⟩
        · skip
          refine ops_nil ?_
          change Run _ _ _ _ [_, _, _, _, _, _, _, _, _, _, _, _, _, _, _, _, _, _, _, _, _, _, _, _, _, _, _, _, _, _, _, _, _, _, _, _, _, _, _, _, _, _, _, _, _, _, _, _, _, _, _, _, _, _, _, _, _, _, _, _, _, _, _, _, _, _, _, _, _, _, _, _, _, _, _, _, _, _, _, _, _, _, _, _, _, _, _, _, _, _, _, _, _, _, _, _, _, _, _, _, _, _, _, _, _, _, _, _, _, _, _, _, _, _, _, _, _, _, _, _, _, _, _, _, _, _, _, _, _, _, _, _, _, _, _, _, _, _, _, _, _, _, _, _] _
          refine run_cond_false rfl ?_
          refine run_exit ?_
          refine rnd_exit ?_
          refine blk_exit ?_
          refine run_seq ?_
          refine run_seq ?_
          refine run_region ?_
          have HC := HA2.all H24
          have hR1e := Fr.to (A := thcommand) hR1 H24
          have hR3e := Fr.to (A := thcommand) hR3 H24
          obtain ⟨B1, j1, hv1, hr1, hok1⟩ := and_bytes hR1e hxm
          obtain ⟨rfl, rfl⟩ : B1 = Bm ∧ j1 = km := by rw [hvm] at hv1; simp only [Option.some.injEq, Value.slice.injEq, true_and] at hv1; exact ⟨hv1.1.symm, hv1.2.symm⟩
          obtain ⟨gp, U, csm, om, HD, hgm, hgb⟩ := adopt_slice HC hr1 (by simp [u8s]) (fun h0 p hp => ⟨by have := (hok1 h0 p hp).1; omega, (hok1 h0 p hp).2.1, (hok1 h0 p hp).2.2⟩)
          have hR3f : thcommand.M w24 (fun p => p ∉ bl ([(some gv, 28, cv), (gi, 5, u8s (s ++ [71, 71]) ++ si), (ga1, 5, ys), (ga2, 5, u8s o1 ++ sa2), (ga3, 5, u8s o1 ++ sa3), (some gq5, 5, zs2), (some gk1, 28, cr1), (some gk3, 28, cr3)] ++ [(gp, U, csm)])) (gotR thcommand b) cr3 := thcommand.mono hR3e fun p hp hq => by
            rw [bl_append] at hq
            rcases List.mem_append.1 hq with hq | hq
            · exact hp.2.1 hq
            · have hp1 := hp.1
              cases gp with
              | none => simp [bl] at hq
              | some kk =>
                simp [bl] at hq
                subst hq
                obtain ⟨h0, pa, hpa, hpb⟩ := hgb _ rfl
                have := hltm h0 pa hpa
                omega
          obtain ⟨Bn, jn, hvn, hrn, hokn⟩ := and_bytes hR3f hxm
          have H25 := HD.here
          obtain ⟨we, hwe⟩ : ∃ w, w = w24 := ⟨_, rfl⟩
          subst hwe
          refine ops_val (ex_assign rfl) ?_
          refine ops_nil ?_
          change Run _ _ _ _ [_, _, _, _, _, _, _, _, _, _, _, _, _, _, _, _, _, _, _, _, _, _, _, _, _, _, _, _, _, _, _, _, _, _, _, _, _, _, _, _, _, _, _, _, _, _, _, _, _, _, _, _, _, _, _, _, _, _, _, _, _, _, _, _, _, _, _, _, _, _, _, _, _, _, _, _, _, _, _, _, _, _, _, _, _, _, _, _, _, _, _, _, _, _, _, _, _, _, _, _, _, _, _, _, _, _, _, _, _, _, _, _, _, _, _, _, _, _, _, _, _, _, _, _, _, _, _, _, _, _, _, _, _, _, _, _, _, _, _, _, _, _, _, _] _
          refine run_block ?_
          refine run_loop (fun n l w => ∃ (q3 : Nat) (y3 : Int) (cs3 : List Value), sm.length - q3 = n ∧ Fits [some (.agg cells.toArray), some (.slice AA b.length c), some (.pointer (some ⟨g1, 0, none⟩)), none, none, some (.pointer (some ⟨gv, 0, none⟩)), some (.slice (hd ga1) o1.length ca1), some (.int .i64 (errOf (wAll (thcommand.fl x) W0) : Int)), some (.slice (hd ga2) o1.length ca2), some (.int .i64 (errOf (wAll (thcommand.fl x) W0) : Int)), none, some (.slice (hd ga3) o1.length ca3), some (.int .i64 (errOf (wAll (thcommand.fl x) W0) : Int)), some (.slice (hd (some gq5)) b.length ct), some (.pointer (some ⟨gk1, 0, none⟩)), some (.int .i64 (errR thcommand b : Int)), some (.pointer (some ⟨gk3, 0, none⟩)), some (.int .i64 (errR thcommand b : Int)), none, some (.int .i64 y3), none, none, none, none, none, none, none, none, none, none, none, none, none, none, none, none, none, none, none, none, none, none, none, none, none, none, none, none, none, none, none, none, none, none, none, none, none, none, none, none, none, none, none, none, none, none, none, none, none, none, none, none, none, none, none, none, none, none, none, none, none, none, none, none, none, none, none, none, none, none, none, none, none, none, none, none, none, none, none, none, none, none, none, none, none, none, none, none, none, none, none, none, none, none, none, none, none, none, none, none, none, none, none, none, none, none, none, none, none, none, none, none, none, none, none, none, none, none, none, none, none, none, none, none] l ∧ y3 = q3 ∧ q3 ≤ sm.length ∧ cs3.length = csm.length ∧ Hp we w (bl ([(some gv, 28, cv), (gi, 5, u8s (s ++ [71, 71]) ++ si), (ga1, 5, ys), (ga2, 5, u8s o1 ++ sa2), (ga3, 5, u8s o1 ++ sa3), (some gq5, 5, zs2), (some gk1, 28, cr1), (some gk3, 28, cr3)] ++ [(gp, U, csm)])) ([(some gv, 28, cv), (gi, 5, u8s (s ++ [71, 71]) ++ si), (ga1, 5, ys), (ga2, 5, u8s o1 ++ sa2), (ga3, 5, u8s o1 ++ sa3), (some gq5, 5, zs2), (some gk1, 28, cr1), (some gk3, 28, cr3)] ++ [(gp, U, cs3)])) (sm.length) ?_ ?_
          · exact ⟨0, _, _, rfl, (fs (fs (fs (fn (fn (fs (fs (fs (fs (fs (fn (fs (fs (fs (fs (fs (fs (fs (fn (fs (fn (fn (fn (fn (fn (fn (fn (fn (fn (fn (fn (fn (fn (fn (fn (fn (fn (fn (fn (fn (fn (fn (fn (fn (fn (fn (fn (fn (fn (fn (fn (fn (fn (fn (fn (fn (fn (fn (fn (fn (fn (fn (fn (fn (fn (fn (fn (fn (fn (fn (fn (fn (fn (fn (fn (fn (fn (fn (fn (fn (fn (fn (fn (fn (fn (fn (fn (fn (fn (fn (fn (fn (fn (fn (fn (fn (fn (fn (fn (fn (fn (fn (fn (fn (fn (fn (fn (fn (fn (fn (fn (fn (fn (fn (fn (fn (fn (fn (fn (fn (fn (fn (fn (fn (fn (fn (fn (fn (fn (fn (fn (fn (fn (fn (fn (fn (fn (fn (fn (fn (fn (fn (fn (fn f0)))))))))))))))))))))))))))))))))))))))))))))))))))))))))))))))))))))))))))))))))))))))))))))))))))))))))))))))))))))))))))))))))))))))))))))))), rfl, Nat.zero_le _, rfl, H25⟩
          · rintro n l w26 ⟨q3, y3, cs3, rfl, hfit, rfl, hq3, hcs3, H26⟩
            obtain ⟨j, rfl⟩ := hfit.open
            change Run _ _ _ _ [_, _, _, _, _, _, _, _, _, _, _, _, _, _, _, _, _, _, _, _, _, _, _, _, _, _, _, _, _, _, _, _, _, _, _, _, _, _, _, _, _, _, _, _, _, _, _, _, _, _, _, _, _, _, _, _, _, _, _, _, _, _, _, _, _, _, _, _, _, _, _, _, _, _, _, _, _, _, _, _, _, _, _, _, _, _, _, _, _, _, _, _, _, _, _, _, _, _, _, _, _, _, _, _, _, _, _, _, _, _, _, _, _, _, _, _, _, _, _, _, _, _, _, _, _, _, _, _, _, _, _, _, _, _, _, _, _, _, _, _, _, _, _, _] _
            clear hfit
            refine run_seq ?_
            refine run_seq ?_
            refine run_region ?_
            refine ops_val (ex_move rfl) ?_
            refine ops_val (ex_fieldAddr fl28_13 rfl) ?_
            refine ops_val (ex_load ty26 rfl (H26.cell (i := 6) rfl hvm)) ?_
            refine ops_val (ex_len_slice Try.underlying26 rfl) ?_
            change Ops _ _ _ _ _ _ [_, _, _, _, _, _, _, _, _, _, _, _, _, _, _, _, _, _, _, _, _, _, _, _, _, _, _, _, _, _, _, _, _, _, _, _, _, _, _, _, _, _, _, _, _, _, _, _, _, _, _, _, _, _, _, _, _, _, _, _, _, _, _, _, _, _, _, _, _, _, _, _, _, _, _, _, _, _, _, _, _, _, _, _, _, _, _, _, _, _, _, _, _, _, _, _, _, _, _, _, _, _, _, _, _, _, _, _, _, _, _, _, _, _, _, _, _, _, _, _, _, _, _, _, _, _, _, _, _, _, _, _, _, _, _, _, _, _, _, _, _, _, _, _] _
            refine ops_test (ex_lss rfl rfl) (fun hp109 => ?_) (fun hp109 => ?_)
            · have hql3 : q3 < sm.length := by omega
              obtain ⟨kg, rfl, rfl, hfit3⟩ := hgm (by omega)
              obtain ⟨an, rfl⟩ := hrn.some_ (by omega)
              refine ops_nil ?_
              change Run _ _ _ _ [_, _, _, _, _, _, _, _, _, _, _, _, _, _, _, _, _, _, _, _, _, _, _, _, _, _, _, _, _, _, _, _, _, _, _, _, _, _, _, _, _, _, _, _, _, _, _, _, _, _, _, _, _, _, _, _, _, _, _, _, _, _, _, _, _, _, _, _, _, _, _, _, _, _, _, _, _, _, _, _, _, _, _, _, _, _, _, _, _, _, _, _, _, _, _, _, _, _, _, _, _, _, _, _, _, _, _, _, _, _, _, _, _, _, _, _, _, _, _, _, _, _, _, _, _, _, _, _, _, _, _, _, _, _, _, _, _, _, _, _, _, _, _, _] _
              refine run_cond_true rfl ?_
              refine run_skip ?_
              refine run_seq ?_
              refine run_block ?_
              refine run_tail 10 mixed (by kernel_rfl) ?_
              rintro w27 hw27
              have H27 := Hp.drew H26; rw [← hw27] at H27
              refine still_val (ex_fieldAddr fl28_13 rfl) ?_
              refine still_val (ex_load ty26 rfl (H27.cell (i := 6) rfl hvm)) ?_
              refine still_val (ex_move rfl) ?_
              refine still_val (ex_fieldAddr fl28_13 rfl) ?_
              change Still _ _ _ _ _ _ [_, _, _, _, _, _, _, _, _, _, _, _, _, _, _, _, _, _, _, _, _, _, _, _, _, _, _, _, _, _, _, _, _, _, _, _, _, _, _, _, _, _, _, _, _, _, _, _, _, _, _, _, _, _, _, _, _, _, _, _, _, _, _, _, _, _, _, _, _, _, _, _, _, _, _, _, _, _, _, _, _, _, _, _, _, _, _, _, _, _, _, _, _, _, _, _, _, _, _, _, _, _, _, _, _, _, _, _, _, _, _, _, _, _, _, _, _, _, _, _, _, _, _, _, _, _, _, _, _, _, _, _, _, _, _, _, _, _, _, _, _, _, _, _]
              refine still_val (ex_load ty26 rfl (H27.cell (i := 7) rfl hvn)) ?_
              refine still_val (ex_move rfl) ?_
              refine still_val (ex_idx Try.underlying26 ty5 rfl rfl rfl hql3 (Nat.mul_one _)) ?_
              refine still_val (ex_load ty5 rfl ((hrn.to H27 (fun a ha => hokn (by omega) a ha)).cells an rfl q3 _ (u8s_at hql3))) ?_
              change Still _ _ _ _ _ _ [_, _, _, _, _, _, _, _, _, _, _, _, _, _, _, _, _, _, _, _, _, _, _, _, _, _, _, _, _, _, _, _, _, _, _, _, _, _, _, _, _, _, _, _, _, _, _, _, _, _, _, _, _, _, _, _, _, _, _, _, _, _, _, _, _, _, _, _, _, _, _, _, _, _, _, _, _, _, _, _, _, _, _, _, _, _, _, _, _, _, _, _, _, _, _, _, _, _, _, _, _, _, _, _, _, _, _, _, _, _, _, _, _, _, _, _, _, _, _, _, _, _, _, _, _, _, _, _, _, _, _, _, _, _, _, _, _, _, _, _, _, _, _, _]
              refine still_val (ex_add rfl rfl (rfl)) ?_
              refine still_val (ex_idxN Try.underlying26 ty5 rfl rfl rfl hql3) ?_
              refine still_nil ?_
              refine ops_store1 ty5 H27 8 rfl rfl rfl rfl (by omega) rfl ?_
              intro w28 H28
              refine ops_nil ?_
              change Run _ _ _ _ [_, _, _, _, _, _, _, _, _, _, _, _, _, _, _, _, _, _, _, _, _, _, _, _, _, _, _, _, _, _, _, _, _, _, _, _, _, _, _, _, _, _, _, _, _, _, _, _, _, _, _, _, _, _, _, _, _, _, _, _, _, _, _, _, _, _, _, _, _, _, _, _, _, _, _, _, _, _, _, _, _, _, _, _, _, _, _, _, _, _, _, _, _, _, _, _, _, _, _, _, _, _, _, _, _, _, _, _, _, _, _, _, _, _, _, _, _, _, _, _, _, _, _, _, _, _, _, _, _, _, _, _, _, _, _, _, _, _, _, _, _, _, _, _] _
              refine run_nil (blk_normal ?_)
              refine run_region ?_
              refine ops_val (ex_move rfl) ?_
              refine ops_val (ex_add rfl rfl (IntWalk.i64_in _ (by omega))) ?_
              refine ops_val (ex_assign rfl) ?_
              refine ops_nil ?_
              change Run _ _ _ _ [_, _, _, _, _, _, _, _, _, _, _, _, _, _, _, _, _, _, _, _, _, _, _, _, _, _, _, _, _, _, _, _, _, _, _, _, _, _, _, _, _, _, _, _, _, _, _, _, _, _, _, _, _, _, _, _, _, _, _, _, _, _, _, _, _, _, _, _, _, _, _, _, _, _, _, _, _, _, _, _, _, _, _, _, _, _, _, _, _, _, _, _, _, _, _, _, _, _, _, _, _, _, _, _, _, _, _, _, _, _, _, _, _, _, _, _, _, _, _, _, _, _, _, _, _, _, _, _, _, _, _, _, _, _, _, _, _, _, _, _, _, _, _, _] _
              refine run_nil (rnd_normal ?_)
              exact ⟨sm.length - (q3 + 1), by omega, q3 + 1, _, _, rfl, (fs (fs (fs (fn (fn (fs (fs (fs (fs (fs (fn (fs (fs (fs (fs (fs (fs (fs (fn (fs (fn (fn (fn (fn (fn (fn (fn (fn (fn (fn (fn (fn (fn (fn (fn (fn (fn (fn (fn (fn (fn (fn (fn (fn (fn (fn (fn (fn (fn (fn (fn (fn (fn (fn (fn (fn (fn (fn (fn (fn (fn (fn (fn (fn (fn (fn (fn (fn (fn (fn (fn (fn (fn (fn (fn (fn (fn (fn (fn (fn (fn (fn (fn (fn (fn (fn (fn (fn (fn (fn (fn (fn (fn (fn (fn (fn (fn (fn (fn (fn (fn (fn (fn (fn (fn (fn (fn (fn (fn (fn (fn (fn (fn (fn (fn (fn (fn (fn (fn (fn (fn (fn (fn (fn (fn (fn (fn (fn (fn (fn (fn (fn (fn (fn (fn (fn (fn (fn (fn (fn (fn (fn (fn (fn f0)))))))))))))))))))))))))))))))))))))))))))))))))))))))))))))))))))))))))))))))))))))))))))))))))))))))))))))))))))))))))))))))))))))))))))))))), rfl, by omega, by rw [List.length_set]; exact hcs3, H28⟩
            · skip
              refine ops_nil ?_
              change Run _ _ _ _ [_, _, _, _, _, _, _, _, _, _, _, _, _, _, _, _, _, _, _, _, _, _, _, _, _, _, _, _, _, _, _, _, _, _, _, _, _, _, _, _, _, _, _, _, _, _, _, _, _, _, _, _, _, _, _, _, _, _, _, _, _, _, _, _, _, _, _, _, _, _, _, _, _, _, _, _, _, _, _, _, _, _, _, _, _, _, _, _, _, _, _, _, _, _, _, _, _, _, _, _, _, _, _, _, _, _, _, _, _, _, _, _, _, _, _, _, _, _, _, _, _, _, _, _, _, _, _, _, _, _, _, _, _, _, _, _, _, _, _, _, _, _, _, _] _
              refine run_cond_false rfl ?_
              refine run_exit ?_
              refine rnd_exit ?_
              refine blk_exit ?_
              refine run_seq ?_
              refine run_region ?_
              refine ops_val (ex_move rfl) ?_
              have hn1 := thcommand.to hR3f H26 (fun _ h => h)
              refine ops_call_rd (ex_call gf13 rfl) (command_rd AA b c _ (hrb.to0 (HD.all H26)) (by omega)) ?_
              intro w27 cr4 hR4 Hd
              replace hR4 := rebase (A := thcommand) H26 hR4
              have hn2 := thcommand.to hn1 (H26.here.call0 Hd) (fun _ h => h.2)
              have hk4 : cr4.length = 25 := thcommand.len hR4
              have hw4 := thcommand.ones hR4
              have HA4 := HD.all ((H26.call0 Hd).pick [0, 1, 2, 3, 4, 5, 6, 7, 8] (by decide))
              have H27 := HA4.here
              refine ops_val (ex_move rfl) ?_
              refine ops_val (ex_extract rfl rfl) ?_
              change Ops _ _ _ _ _ _ [_, _, _, _, _, _, _, _, _, _, _, _, _, _, _, _, _, _, _, _, _, _, _, _, _, _, _, _, _, _, _, _, _, _, _, _, _, _, _, _, _, _, _, _, _, _, _, _, _, _, _, _, _, _, _, _, _, _, _, _, _, _, _, _, _, _, _, _, _, _, _, _, _, _, _, _, _, _, _, _, _, _, _, _, _, _, _, _, _, _, _, _, _, _, _, _, _, _, _, _, _, _, _, _, _, _, _, _, _, _, _, _, _, _, _, _, _, _, _, _, _, _, _, _, _, _, _, _, _, _, _, _, _, _, _, _, _, _, _, _, _, _, _, _] _
              refine ops_val (ex_extract rfl rfl) ?_
              refine ops_alloc ty28 H27 ?_
              intro w28 gk4 H28 hgk4
              refine ops_store ty28 H28 9 rfl rfl rfl rfl hk4 (by rw [hk4]; decide) hw4 ?_
              intro w29 H29
              have hpu4 : putAt [.int .i64 0, .int .i64 0, .int .i64 0, .int .i64 0, .int .i64 0, .int .i64 0, .string .empty, .int .i64 0, .int .i64 0, .int .i64 0, .bool false, .int .i64 0, .string .empty, .string .empty, .int .i64 0, .int .i64 0, .int .i64 0, .int .i64 0, .int .i64 0, .int .i64 0, .string .empty, .string .empty, .int .i64 0, .int .i64 0, .slice none 0 0] 0 cr4 = cr4 := putAt_all hk4
              rw [hpu4] at H29
              refine ops_val (ex_assign rfl) ?_
              refine ops_nil ?_
              change Run _ _ _ _ [_, _, _, _, _, _, _, _, _, _, _, _, _, _, _, _, _, _, _, _, _, _, _, _, _, _, _, _, _, _, _, _, _, _, _, _, _, _, _, _, _, _, _, _, _, _, _, _, _, _, _, _, _, _, _, _, _, _, _, _, _, _, _, _, _, _, _, _, _, _, _, _, _, _, _, _, _, _, _, _, _, _, _, _, _, _, _, _, _, _, _, _, _, _, _, _, _, _, _, _, _, _, _, _, _, _, _, _, _, _, _, _, _, _, _, _, _, _, _, _, _, _, _, _, _, _, _, _, _, _, _, _, _, _, _, _, _, _, _, _, _, _, _, _] _
              refine run_seq ?_
              refine run_region ?_
              refine ops_val (ex_loadN ty28 rfl (vs := cr3) hk3 (H29.cells (i := 7) rfl)) ?_
              refine ops_val (ex_loadN ty28 rfl (vs := cr4) hk4 (H29.cells (i := 9) rfl)) ?_
              refine ops_call_val (ex_call gf17 rfl) (scommand_any (gotR thcommand b) cr3 cr4 _ _ _ (thcommand.to hn2 H29 (fun _ h => h.2)) (Fr.to (A := thcommand) hR4 H29) (got_short (by omega))) ?_
              intro w30 Hd
              have H30 := (HA4.all (H29.call0 Hd)).pick [] (by decide)
              refine ops_val (ex_move rfl) ?_
              change Ops _ _ _ _ _ _ [_, _, _, _, _, _, _, _, _, _, _, _, _, _, _, _, _, _, _, _, _, _, _, _, _, _, _, _, _, _, _, _, _, _, _, _, _, _, _, _, _, _, _, _, _, _, _, _, _, _, _, _, _, _, _, _, _, _, _, _, _, _, _, _, _, _, _, _, _, _, _, _, _, _, _, _, _, _, _, _, _, _, _, _, _, _, _, _, _, _, _, _, _, _, _, _, _, _, _, _, _, _, _, _, _, _, _, _, _, _, _, _, _, _, _, _, _, _, _, _, _, _, _, _, _, _, _, _, _, _, _, _, _, _, _, _, _, _, _, _, _, _, _, _] _
              refine ops_yes rfl ?_
              refine ops_val (ex_move rfl) ?_
              refine ops_yes rfl ?_
              refine ops_val (ex_move rfl) ?_
              change Ops _ _ _ _ _ _ [_, _, _, _, _, _, _, _, _, _, _, _, _, _, _, _, _, _, _, _, _, _, _, _, _, _, _, _, _, _, _, _, _, _, _, _, _, _, _, _, _, _, _, _, _, _, _, _, _, _, _, _, _, _, _, _, _, _, _, _, _, _, _, _, _, _, _, _, _, _, _, _, _, _, _, _, _, _, _, _, _, _, _, _, _, _, _, _, _, _, _, _, _, _, _, _, _, _, _, _, _, _, _, _, _, _, _, _, _, _, _, _, _, _, _, _, _, _, _, _, _, _, _, _, _, _, _, _, _, _, _, _, _, _, _, _, _, _, _, _, _, _, _, _] _
              refine ops_yes rfl ?_
              refine ops_true (ex_eql rfl rfl) (rfl) ?_
              refine ops_val (ex_pick_t rfl rfl) ?_
              refine ops_val (ex_move rfl) ?_
              change Ops _ _ _ _ _ _ [_, _, _, _, _, _, _, _, _, _, _, _, _, _, _, _, _, _, _, _, _, _, _, _, _, _, _, _, _, _, _, _, _, _, _, _, _, _, _, _, _, _, _, _, _, _, _, _, _, _, _, _, _, _, _, _, _, _, _, _, _, _, _, _, _, _, _, _, _, _, _, _, _, _, _, _, _, _, _, _, _, _, _, _, _, _, _, _, _, _, _, _, _, _, _, _, _, _, _, _, _, _, _, _, _, _, _, _, _, _, _, _, _, _, _, _, _, _, _, _, _, _, _, _, _, _, _, _, _, _, _, _, _, _, _, _, _, _, _, _, _, _, _, _] _
              refine ops_yes rfl ?_
              refine ops_val (ex_move rfl) ?_
              refine ops_yes rfl ?_
              refine ops_test (ex_eql rfl rfl) (fun hp137 => ?_) (fun hp137 => ?_)
              · skip
                refine ops_yes rfl ?_
                refine ops_val (ex_move rfl) ?_
                change Ops _ _ _ _ _ _ [_, _, _, _, _, _, _, _, _, _, _, _, _, _, _, _, _, _, _, _, _, _, _, _, _, _, _, _, _, _, _, _, _, _, _, _, _, _, _, _, _, _, _, _, _, _, _, _, _, _, _, _, _, _, _, _, _, _, _, _, _, _, _, _, _, _, _, _, _, _, _, _, _, _, _, _, _, _, _, _, _, _, _, _, _, _, _, _, _, _, _, _, _, _, _, _, _, _, _, _, _, _, _, _, _, _, _, _, _, _, _, _, _, _, _, _, _, _, _, _, _, _, _, _, _, _, _, _, _, _, _, _, _, _, _, _, _, _, _, _, _, _, _, _] _
                refine ops_no rfl ?_
                refine ops_no rfl ?_
                change Ops _ _ _ _ _ _ [_, _, _, _, _, _, _, _, _, _, _, _, _, _, _, _, _, _, _, _, _, _, _, _, _, _, _, _, _, _, _, _, _, _, _, _, _, _, _, _, _, _, _, _, _, _, _, _, _, _, _, _, _, _, _, _, _, _, _, _, _, _, _, _, _, _, _, _, _, _, _, _, _, _, _, _, _, _, _, _, _, _, _, _, _, _, _, _, _, _, _, _, _, _, _, _, _, _, _, _, _, _, _, _, _, _, _, _, _, _, _, _, _, _, _, _, _, _, _, _, _, _, _, _, _, _, _, _, _, _, _, _, _, _, _, _, _, _, _, _, _, _, _, _] _
                refine ops_no rfl ?_
                refine ops_yes rfl ?_
                refine ops_val (ex_pick_t rfl rfl) ?_
                refine ops_val (ex_pick_t rfl rfl) ?_
                refine ops_val (ex_assign rfl) ?_
                refine ops_nil ?_
                change Run _ _ _ _ [_, _, _, _, _, _, _, _, _, _, _, _, _, _, _, _, _, _, _, _, _, _, _, _, _, _, _, _, _, _, _, _, _, _, _, _, _, _, _, _, _, _, _, _, _, _, _, _, _, _, _, _, _, _, _, _, _, _, _, _, _, _, _, _, _, _, _, _, _, _, _, _, _, _, _, _, _, _, _, _, _, _, _, _, _, _, _, _, _, _, _, _, _, _, _, _, _, _, _, _, _, _, _, _, _, _, _, _, _, _, _, _, _, _, _, _, _, _, _, _, _, _, _, _, _, _, _, _, _, _, _, _, _, _, _, _, _, _, _, _, _, _, _, _] _
                refine run_ret ?_
                refine fin_ret1 rfl rfl ?_
                exact ⟨rfl, (HA0.call0 H30).pick [] (by decide)⟩
              · have ho0 : o1.length = 0 := by
                  have hc : (wAll (thcommand.fl x) W0).long = true := by
                    cases hl : (wAll (thcommand.fl x) W0).long with
                    | true => rfl
                    | false => exact absurd (by rw [(errOf_ok hl).2]; rfl) hp137
                  rw [← ho1, (errOf_long hc).1]; rfl
                refine ops_yes rfl ?_
                refine ops_val (ex_move rfl) ?_
                change Ops _ _ _ _ _ _ [_, _, _, _, _, _, _, _, _, _, _, _, _, _, _, _, _, _, _, _, _, _, _, _, _, _, _, _, _, _, _, _, _, _, _, _, _, _, _, _, _, _, _, _, _, _, _, _, _, _, _, _, _, _, _, _, _, _, _, _, _, _, _, _, _, _, _, _, _, _, _, _, _, _, _, _, _, _, _, _, _, _, _, _, _, _, _, _, _, _, _, _, _, _, _, _, _, _, _, _, _, _, _, _, _, _, _, _, _, _, _, _, _, _, _, _, _, _, _, _, _, _, _, _, _, _, _, _, _, _, _, _, _, _, _, _, _, _, _, _, _, _, _, _] _
                refine ops_yes rfl ?_
                refine ops_val (ex_move rfl) ?_
                refine ops_yes rfl ?_
                refine ops_val (ex_len_slice Try.underlying26 rfl) ?_
                change Ops _ _ _ _ _ _ [_, _, _, _, _, _, _, _, _, _, _, _, _, _, _, _, _, _, _, _, _, _, _, _, _, _, _, _, _, _, _, _, _, _, _, _, _, _, _, _, _, _, _, _, _, _, _, _, _, _, _, _, _, _, _, _, _, _, _, _, _, _, _, _, _, _, _, _, _, _, _, _, _, _, _, _, _, _, _, _, _, _, _, _, _, _, _, _, _, _, _, _, _, _, _, _, _, _, _, _, _, _, _, _, _, _, _, _, _, _, _, _, _, _, _, _, _, _, _, _, _, _, _, _, _, _, _, _, _, _, _, _, _, _, _, _, _, _, _, _, _, _, _, _] _
                refine ops_yes rfl ?_
                refine ops_true (ex_eql rfl rfl) (by omega) ?_
                refine ops_yes rfl ?_
                refine ops_val (ex_pick_f rfl rfl) ?_
                refine ops_val (ex_pick_t rfl rfl) ?_
                refine ops_val (ex_assign rfl) ?_
                refine ops_nil ?_
                change Run _ _ _ _ [_, _, _, _, _, _, _, _, _, _, _, _, _, _, _, _, _, _, _, _, _, _, _, _, _, _, _, _, _, _, _, _, _, _, _, _, _, _, _, _, _, _, _, _, _, _, _, _, _, _, _, _, _, _, _, _, _, _, _, _, _, _, _, _, _, _, _, _, _, _, _, _, _, _, _, _, _, _, _, _, _, _, _, _, _, _, _, _, _, _, _, _, _, _, _, _, _, _, _, _, _, _, _, _, _, _, _, _, _, _, _, _, _, _, _, _, _, _, _, _, _, _, _, _, _, _, _, _, _, _, _, _, _, _, _, _, _, _, _, _, _, _, _, _] _
                refine run_ret ?_
                refine fin_ret1 rfl rfl ?_
                exact ⟨rfl, (HA0.call0 H30).pick [] (by decide)⟩
end Go.Proofs.Ytoeobicpdeklaaa
