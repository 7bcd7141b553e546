/- Walks of layer 2, printed by wip/gen/codec.py. -/
import Derived.Test.YtoeobicpdeklaaaWireH
import Derived.Test.YtoeobicpdeklaaaWireI
import Derived.Test.YtoeobicpdeklaaaWireJ
import Derived.Test.YtoeobicpdeklaaaWireU
namespace Go.Proofs.Ytoeobicpdeklaaa
open Go Go.RowKit
set_option linter.unusedVariables false
attribute [local irreducible] Still Ops Does Cd
set_option maxRecDepth 100000 in
set_option maxHeartbeats 4000000 in
theorem wireCommands_any (x : List Fv) (cells : List Value) (AA : Option Addr) (b : List UInt8) (c : Nat) (w0 : World) (hM : thcommand.M w0 (fun _ => True) x cells) (hsh : Short x) (hr : Rd w0 AA b.length 1 (u8s b)) (hb : b.length ≤ 140737488351232) :
    Does Try.prog 3 #[.agg cells.toArray, .slice AA b.length c] w0 (fun r w' => r = .bool true ∧ Hp w0 w' [] []) := by
  refine does_of Try.func3 Try.ntmps3 rfl ?_
  change Run _ _ _ _ [.agg cells.toArray, .slice AA b.length c, undef, undef, undef, undef, undef, undef, undef, undef, undef, undef, undef, undef, undef, undef, undef, undef, undef, undef, undef, undef, undef, undef, undef, undef, undef, undef, undef, undef, undef, undef, undef, undef, undef, undef, undef, undef, undef, undef, undef, undef, undef, undef, undef, undef, undef, undef, undef, undef, undef, undef, undef, undef, undef, undef, undef] _
  have hlen : cells.length = 25 := thcommand.len hM
  have H := Hp.refl w0
  refine run_seq ?_
  refine run_region ?_
  refine ops_box rfl rfl H ?_
  intro w1 g1 H1 hg1
  refine ops_val (ex_assign rfl) ?_
  refine ops_nil ?_
  change Run _ _ _ _ [_, _, _, _, _, _, _, _, _, _, _, _, _, _, _, _, _, _, _, _, _, _, _, _, _, _, _, _, _, _, _, _, _, _, _, _, _, _, _, _, _, _, _, _, _, _, _, _, _, _, _, _, _, _, _, _, _] _
  refine run_seq ?_
  refine run_region ?_
  refine ops_val (ex_loadN ty28 rfl (vs := cells) hlen (H1.cells (i := 0) rfl)) ?_
  refine ops_call (ex_call gf11 rfl) (copyCommand_any x cells _ (thcommand.mono (thcommand.to hM H1 (fun _ _ => by simp)) (fun _ _ => trivial)) hsh) ?_
  rintro _ w2 ⟨cells2, rfl, hM2, Hd⟩
  have H2 := H1.call0 Hd
  refine ops_call_wr (ex_call gf10 rfl) (command_wr x cells2 _ hM2) ?_
  intro w3 ga1 ca1 sa1 qa1 qb1 qc1 qd1 Hd
  have H3 := H2.call0 Hd
  refine ops_val (ex_move rfl) ?_
  change Ops _ _ _ _ _ _ [_, _, _, _, _, _, _, _, _, _, _, _, _, _, _, _, _, _, _, _, _, _, _, _, _, _, _, _, _, _, _, _, _, _, _, _, _, _, _, _, _, _, _, _, _, _, _, _, _, _, _, _, _, _, _, _, _] _
  refine ops_val (ex_extract rfl rfl) ?_
  refine ops_val (ex_extract rfl rfl) ?_
  refine ops_val (ex_assign rfl) ?_
  refine ops_val (ex_assign rfl) ?_
  refine ops_nil ?_
  change Run _ _ _ _ [_, _, _, _, _, _, _, _, _, _, _, _, _, _, _, _, _, _, _, _, _, _, _, _, _, _, _, _, _, _, _, _, _, _, _, _, _, _, _, _, _, _, _, _, _, _, _, _, _, _, _, _, _, _, _, _, _] _
  refine run_seq ?_
  refine run_region ?_
  refine ops_val (ex_loadN ty28 rfl (vs := cells) hlen (H3.cells (i := 0) rfl)) ?_
  refine ops_call_wr (ex_call gf12 rfl) (command_vwr x cells _ (thcommand.mono (thcommand.to hM H3 (fun _ _ => by simp)) (fun _ _ => trivial))) ?_
  intro w4 ga2 ca2 sa2 qa2 qb2 qc2 qd2 Hd
  have H4 := H3.call0 Hd
  refine ops_val (ex_move rfl) ?_
  refine ops_val (ex_extract rfl rfl) ?_
  change Ops _ _ _ _ _ _ [_, _, _, _, _, _, _, _, _, _, _, _, _, _, _, _, _, _, _, _, _, _, _, _, _, _, _, _, _, _, _, _, _, _, _, _, _, _, _, _, _, _, _, _, _, _, _, _, _, _, _, _, _, _, _, _, _] _
  refine ops_val (ex_extract rfl rfl) ?_
  refine ops_val (ex_assign rfl) ?_
  refine ops_val (ex_assign rfl) ?_
  refine ops_nil ?_
  change Run _ _ _ _ [_, _, _, _, _, _, _, _, _, _, _, _, _, _, _, _, _, _, _, _, _, _, _, _, _, _, _, _, _, _, _, _, _, _, _, _, _, _, _, _, _, _, _, _, _, _, _, _, _, _, _, _, _, _, _, _, _] _
  refine run_seq ?_
  refine run_region ?_
  refine ops_buildSlice Try.underlying26 ty5 H4 (cs := []) rfl (by decide) rfl ?_
  intro w5 gb H5 hgb
  refine ops_val (ex_move rfl) ?_
  refine ops_append Try.underlying26 ty5 (by decide) H5 3 (g := some gb) (xs := []) (sp := []) rfl rfl rfl (by decide) (by decide) (by simp) rfl (hr.to0 H5) (u8s_one' b) (by omega) (by omega) (by decide) ?_
  intro w6 gA cA sA H6 hcA hmA hgA
  obtain ⟨bl0, hbl0⟩ : ∃ m, 0 + b.length = m := ⟨_, rfl⟩
  rw [hbl0]
  have hbl1 : bl0 = b.length := by omega
  subst hbl1
  refine ops_call_rd (ex_call gf13 rfl) (command_rd (hd gA) b cA _ (H6.rd (i := 3) (o := gA) (xs := u8s b) (sp := sA) rfl (u8s_length1 b) (by decide)) (by omega)) ?_
  intro w7 cr1 hR1 Hd
  have hR1 := rebase H6 hR1
  have HA1 := (H6.call0 Hd).pick [0, 1, 2, 3] (by decide)
  have H7 := HA1.here
  change Ops _ _ _ _ _ _ [_, _, _, _, _, _, _, _, _, _, _, _, _, _, _, _, _, _, _, _, _, _, _, _, _, _, _, _, _, _, _, _, _, _, _, _, _, _, _, _, _, _, _, _, _, _, _, _, _, _, _, _, _, _, _, _, _] _
  refine ops_val (ex_move rfl) ?_
  refine ops_val (ex_extract rfl rfl) ?_
  refine ops_val (ex_extract rfl rfl) ?_
  refine ops_alloc ty28 H7 ?_
  intro w8 gk1 H8 hgk1
  change Ops _ _ _ _ _ _ [_, _, _, _, _, _, _, _, _, _, _, _, _, _, _, _, _, _, _, _, _, _, _, _, _, _, _, _, _, _, _, _, _, _, _, _, _, _, _, _, _, _, _, _, _, _, _, _, _, _, _, _, _, _, _, _, _] _
  have hk1 : cr1.length = 25 := thcommand.len hR1
  refine ops_store ty28 H8 4 rfl rfl rfl rfl hk1 (by rw [hk1]; decide) (thcommand.ones hR1) ?_
  intro w9 H9
  have hpu1 : putAt [.int .i64 0, .int .i64 0, .int .i64 0, .int .i64 0, .int .i64 0, .int .i64 0, .string .empty, .int .i64 0, .int .i64 0, .int .i64 0, .bool false, .int .i64 0, .string .empty, .string .empty, .int .i64 0, .int .i64 0, .int .i64 0, .int .i64 0, .int .i64 0, .int .i64 0, .string .empty, .string .empty, .int .i64 0, .int .i64 0, .slice none 0 0] 0 cr1 = cr1 := putAt_all hk1
  rw [hpu1] at H9
  refine ops_val (ex_assign rfl) ?_
  refine ops_nil ?_
  change Run _ _ _ _ [_, _, _, _, _, _, _, _, _, _, _, _, _, _, _, _, _, _, _, _, _, _, _, _, _, _, _, _, _, _, _, _, _, _, _, _, _, _, _, _, _, _, _, _, _, _, _, _, _, _, _, _, _, _, _, _, _] _
  refine run_seq ?_
  refine run_region ?_
  refine ops_val (ex_move rfl) ?_
  refine ops_call_rd (ex_call gf14 rfl) (command_vrd AA b c _ (hr.to0 (HA1.all H9)) (by omega)) ?_
  intro w10 cr2 hR2 Hd
  have hR2 := rebase H9 hR2
  have HA2 := HA1.all <| (H9.call0 Hd).pick [0, 1, 2, 3, 4] (by decide)
  replace hR1 := (Fr.to hR1 H9)
  replace hR1 := (Fr.to hR1 (H9.here.call0 Hd))
  have H10 := HA2.here
  refine ops_val (ex_move rfl) ?_
  refine ops_val (ex_extract rfl rfl) ?_
  change Ops _ _ _ _ _ _ [_, _, _, _, _, _, _, _, _, _, _, _, _, _, _, _, _, _, _, _, _, _, _, _, _, _, _, _, _, _, _, _, _, _, _, _, _, _, _, _, _, _, _, _, _, _, _, _, _, _, _, _, _, _, _, _, _] _
  refine ops_val (ex_extract rfl rfl) ?_
  refine ops_alloc ty28 H10 ?_
  intro w11 gk2 H11 hgk2
  have hk2 : cr2.length = 25 := thcommand.len hR2
  refine ops_store ty28 H11 5 rfl rfl rfl rfl hk2 (by rw [hk2]; decide) (thcommand.ones hR2) ?_
  intro w12 H12
  have hpu2 : putAt [.int .i64 0, .int .i64 0, .int .i64 0, .int .i64 0, .int .i64 0, .int .i64 0, .string .empty, .int .i64 0, .int .i64 0, .int .i64 0, .bool false, .int .i64 0, .string .empty, .string .empty, .int .i64 0, .int .i64 0, .int .i64 0, .int .i64 0, .int .i64 0, .int .i64 0, .string .empty, .string .empty, .int .i64 0, .int .i64 0, .slice none 0 0] 0 cr2 = cr2 := putAt_all hk2
  rw [hpu2] at H12
  refine ops_val (ex_assign rfl) ?_
  refine ops_nil ?_
  change Run _ _ _ _ [_, _, _, _, _, _, _, _, _, _, _, _, _, _, _, _, _, _, _, _, _, _, _, _, _, _, _, _, _, _, _, _, _, _, _, _, _, _, _, _, _, _, _, _, _, _, _, _, _, _, _, _, _, _, _, _, _] _
  refine run_seq ?_
  refine run_region ?_
  replace hR1 := Fr.to hR1 H12
  replace hR2 := Fr.to hR2 H12
  refine ops_call_val (ex_call gf15 rfl) (awake3_any _) ?_
  intro w13 Hd
  replace hR1 := Fr.to hR1 (H12.here.call0 Hd)
  replace hR2 := Fr.to hR2 (H12.here.call0 Hd)
  have H13 := (H12.call0 Hd).pick [0, 1, 2, 3, 4, 5] (by decide)
  refine ops_val (ex_move rfl) ?_
  change Ops _ _ _ _ _ _ [_, _, _, _, _, _, _, _, _, _, _, _, _, _, _, _, _, _, _, _, _, _, _, _, _, _, _, _, _, _, _, _, _, _, _, _, _, _, _, _, _, _, _, _, _, _, _, _, _, _, _, _, _, _, _, _, _] _
  refine ops_yes rfl ?_
  refine ops_val (ex_move rfl) ?_
  refine ops_yes rfl ?_
  refine ops_val (ex_move rfl) ?_
  change Ops _ _ _ _ _ _ [_, _, _, _, _, _, _, _, _, _, _, _, _, _, _, _, _, _, _, _, _, _, _, _, _, _, _, _, _, _, _, _, _, _, _, _, _, _, _, _, _, _, _, _, _, _, _, _, _, _, _, _, _, _, _, _, _] _
  refine ops_yes rfl ?_
  have hk := bytes_any (hd ga1) (hd ga2) _ _ ca1 ca2 _ (H13.rd (i := 1) (o := ga1) (sp := sa1) rfl (u8s_length1 _) (by decide)) (H13.rd (i := 2) (o := ga2) (sp := sa2) rfl (u8s_length1 _) (by decide)) (Nat.le_trans qd1 (by decide)) (Nat.le_trans qd2 (by decide))
  rw [decide_eq_true rfl] at hk
  refine ops_call_val (ex_call gf16 rfl) hk ?_
  intro w14 Hd
  replace hR1 := Fr.to hR1 (H13.here.call0 Hd)
  replace hR2 := Fr.to hR2 (H13.here.call0 Hd)
  have H14 := (H13.call0 Hd).pick [0, 1, 2, 3, 4, 5] (by decide)
  refine ops_val (ex_pick_t rfl rfl) ?_
  refine ops_val (ex_move rfl) ?_
  change Ops _ _ _ _ _ _ [_, _, _, _, _, _, _, _, _, _, _, _, _, _, _, _, _, _, _, _, _, _, _, _, _, _, _, _, _, _, _, _, _, _, _, _, _, _, _, _, _, _, _, _, _, _, _, _, _, _, _, _, _, _, _, _, _] _
  refine ops_yes rfl ?_
  refine ops_val (ex_move rfl) ?_
  refine ops_yes rfl ?_
  refine ops_val (ex_move rfl) ?_
  change Ops _ _ _ _ _ _ [_, _, _, _, _, _, _, _, _, _, _, _, _, _, _, _, _, _, _, _, _, _, _, _, _, _, _, _, _, _, _, _, _, _, _, _, _, _, _, _, _, _, _, _, _, _, _, _, _, _, _, _, _, _, _, _, _] _
  refine ops_yes rfl ?_
  refine ops_true (ex_eql rfl rfl) (rfl) ?_
  refine ops_val (ex_pick_t rfl rfl) ?_
  refine ops_val (ex_move rfl) ?_
  change Ops _ _ _ _ _ _ [_, _, _, _, _, _, _, _, _, _, _, _, _, _, _, _, _, _, _, _, _, _, _, _, _, _, _, _, _, _, _, _, _, _, _, _, _, _, _, _, _, _, _, _, _, _, _, _, _, _, _, _, _, _, _, _, _] _
  refine ops_yes rfl ?_
  refine ops_val (ex_loadN ty28 rfl (vs := cr1) hk1 (H14.cells (i := 4) rfl)) ?_
  refine ops_yes rfl ?_
  refine ops_val (ex_loadN ty28 rfl (vs := cr2) hk2 (H14.cells (i := 5) rfl)) ?_
  change Ops _ _ _ _ _ _ [_, _, _, _, _, _, _, _, _, _, _, _, _, _, _, _, _, _, _, _, _, _, _, _, _, _, _, _, _, _, _, _, _, _, _, _, _, _, _, _, _, _, _, _, _, _, _, _, _, _, _, _, _, _, _, _, _] _
  refine ops_yes rfl ?_
  refine ops_call_val (ex_call gf17 rfl) (scommand_any (gotR thcommand b) cr1 cr2 _ _ _ hR1 hR2 (got_short (by omega))) ?_
  intro w15 Hd
  have H15 := H14.call0 Hd
  refine ops_val (ex_pick_t rfl rfl) ?_
  refine ops_val (ex_move rfl) ?_
  change Ops _ _ _ _ _ _ [_, _, _, _, _, _, _, _, _, _, _, _, _, _, _, _, _, _, _, _, _, _, _, _, _, _, _, _, _, _, _, _, _, _, _, _, _, _, _, _, _, _, _, _, _, _, _, _, _, _, _, _, _, _, _, _, _] _
  refine ops_yes rfl ?_
  refine ops_val (ex_move rfl) ?_
  refine ops_yes rfl ?_
  refine ops_val (ex_move rfl) ?_
  change Ops _ _ _ _ _ _ [_, _, _, _, _, _, _, _, _, _, _, _, _, _, _, _, _, _, _, _, _, _, _, _, _, _, _, _, _, _, _, _, _, _, _, _, _, _, _, _, _, _, _, _, _, _, _, _, _, _, _, _, _, _, _, _, _] _
  refine ops_yes rfl ?_
  refine ops_true (ex_eql rfl rfl) (rfl) ?_
  refine ops_val (ex_pick_t rfl rfl) ?_
  refine ops_val (ex_assign rfl) ?_
  refine ops_nil ?_
  change Run _ _ _ _ [_, _, _, _, _, _, _, _, _, _, _, _, _, _, _, _, _, _, _, _, _, _, _, _, _, _, _, _, _, _, _, _, _, _, _, _, _, _, _, _, _, _, _, _, _, _, _, _, _, _, _, _, _, _, _, _, _] _
  refine run_ret ?_
  refine fin_ret1 rfl rfl ?_
  exact ⟨rfl, (HA2.all H15).pick [] (by decide)⟩
set_option maxRecDepth 100000 in
set_option maxHeartbeats 4000000 in
theorem wireNotes_any (x : List Fv) (cells : List Value) (AA : Option Addr) (b : List UInt8) (c : Nat) (w0 : World) (hM : thnote.M w0 (fun _ => True) x cells) (hsh : Short x) (hr : Rd w0 AA b.length 1 (u8s b)) (hb : b.length ≤ 140737488351232) :
    Does Try.prog 5 #[.agg cells.toArray, .slice AA b.length c] w0 (fun r w' => r = .bool true ∧ Hp w0 w' [] []) := by
  refine does_of Try.func5 Try.ntmps5 rfl ?_
  change Run _ _ _ _ [.agg cells.toArray, .slice AA b.length c, undef, undef, undef, undef, undef, undef, undef, undef, undef, undef, undef, undef, undef, undef, undef, undef, undef, undef, undef, undef, undef, undef, undef, undef, undef, undef, undef, undef, undef, undef, undef, undef, undef, undef, undef, undef, undef, undef, undef, undef, undef, undef, undef, undef, undef, undef, undef, undef, undef, undef, undef, undef, undef, undef] _
  have hlen : cells.length = 16 := thnote.len hM
  have H := Hp.refl w0
  refine run_seq ?_
  refine run_region ?_
  refine ops_box rfl rfl H ?_
  intro w1 g1 H1 hg1
  refine ops_val (ex_assign rfl) ?_
  refine ops_nil ?_
  change Run _ _ _ _ [_, _, _, _, _, _, _, _, _, _, _, _, _, _, _, _, _, _, _, _, _, _, _, _, _, _, _, _, _, _, _, _, _, _, _, _, _, _, _, _, _, _, _, _, _, _, _, _, _, _, _, _, _, _, _, _] _
  refine run_seq ?_
  refine run_region ?_
  refine ops_val (ex_loadN ty50 rfl (vs := cells) hlen (H1.cells (i := 0) rfl)) ?_
  refine ops_call_wr (ex_call gf20 rfl) (note_wr x cells _ (thnote.mono (thnote.to hM H1 (fun _ _ => by simp)) (fun _ _ => trivial))) ?_
  intro w2 ga1 ca1 sa1 qa1 qb1 qc1 qd1 Hd
  have H2 := H1.call0 Hd
  refine ops_val (ex_move rfl) ?_
  refine ops_val (ex_extract rfl rfl) ?_
  change Ops _ _ _ _ _ _ [_, _, _, _, _, _, _, _, _, _, _, _, _, _, _, _, _, _, _, _, _, _, _, _, _, _, _, _, _, _, _, _, _, _, _, _, _, _, _, _, _, _, _, _, _, _, _, _, _, _, _, _, _, _, _, _] _
  refine ops_val (ex_extract rfl rfl) ?_
  refine ops_val (ex_assign rfl) ?_
  refine ops_val (ex_assign rfl) ?_
  refine ops_nil ?_
  change Run _ _ _ _ [_, _, _, _, _, _, _, _, _, _, _, _, _, _, _, _, _, _, _, _, _, _, _, _, _, _, _, _, _, _, _, _, _, _, _, _, _, _, _, _, _, _, _, _, _, _, _, _, _, _, _, _, _, _, _, _] _
  refine run_seq ?_
  refine run_region ?_
  refine ops_val (ex_loadN ty50 rfl (vs := cells) hlen (H2.cells (i := 0) rfl)) ?_
  refine ops_call_wr (ex_call gf21 rfl) (note_vwr x cells _ (thnote.mono (thnote.to hM H2 (fun _ _ => by simp)) (fun _ _ => trivial))) ?_
  intro w3 ga2 ca2 sa2 qa2 qb2 qc2 qd2 Hd
  have H3 := H2.call0 Hd
  refine ops_val (ex_move rfl) ?_
  refine ops_val (ex_extract rfl rfl) ?_
  change Ops _ _ _ _ _ _ [_, _, _, _, _, _, _, _, _, _, _, _, _, _, _, _, _, _, _, _, _, _, _, _, _, _, _, _, _, _, _, _, _, _, _, _, _, _, _, _, _, _, _, _, _, _, _, _, _, _, _, _, _, _, _, _] _
  refine ops_val (ex_extract rfl rfl) ?_
  refine ops_val (ex_assign rfl) ?_
  refine ops_val (ex_assign rfl) ?_
  refine ops_nil ?_
  change Run _ _ _ _ [_, _, _, _, _, _, _, _, _, _, _, _, _, _, _, _, _, _, _, _, _, _, _, _, _, _, _, _, _, _, _, _, _, _, _, _, _, _, _, _, _, _, _, _, _, _, _, _, _, _, _, _, _, _, _, _] _
  refine run_seq ?_
  refine run_region ?_
  refine ops_buildSlice Try.underlying26 ty5 H3 (cs := []) rfl (by decide) rfl ?_
  intro w4 gb H4 hgb
  refine ops_val (ex_move rfl) ?_
  refine ops_append Try.underlying26 ty5 (by decide) H4 3 (g := some gb) (xs := []) (sp := []) rfl rfl rfl (by decide) (by decide) (by simp) rfl (hr.to0 H4) (u8s_one' b) (by omega) (by omega) (by decide) ?_
  intro w5 gA cA sA H5 hcA hmA hgA
  obtain ⟨bl0, hbl0⟩ : ∃ m, 0 + b.length = m := ⟨_, rfl⟩
  rw [hbl0]
  have hbl1 : bl0 = b.length := by omega
  subst hbl1
  refine ops_call_rd (ex_call gf22 rfl) (note_rd (hd gA) b cA _ (H5.rd (i := 3) (o := gA) (xs := u8s b) (sp := sA) rfl (u8s_length1 b) (by decide)) (by omega)) ?_
  intro w6 cr1 hR1 Hd
  have hR1 := rebase H5 hR1
  have HA1 := (H5.call0 Hd).pick [0, 1, 2, 3] (by decide)
  have H6 := HA1.here
  change Ops _ _ _ _ _ _ [_, _, _, _, _, _, _, _, _, _, _, _, _, _, _, _, _, _, _, _, _, _, _, _, _, _, _, _, _, _, _, _, _, _, _, _, _, _, _, _, _, _, _, _, _, _, _, _, _, _, _, _, _, _, _, _] _
  refine ops_val (ex_move rfl) ?_
  refine ops_val (ex_extract rfl rfl) ?_
  refine ops_val (ex_extract rfl rfl) ?_
  refine ops_alloc ty50 H6 ?_
  intro w7 gk1 H7 hgk1
  change Ops _ _ _ _ _ _ [_, _, _, _, _, _, _, _, _, _, _, _, _, _, _, _, _, _, _, _, _, _, _, _, _, _, _, _, _, _, _, _, _, _, _, _, _, _, _, _, _, _, _, _, _, _, _, _, _, _, _, _, _, _, _, _] _
  have hk1 : cr1.length = 16 := thnote.len hR1
  refine ops_store ty50 H7 4 rfl rfl rfl rfl hk1 (by rw [hk1]; decide) (thnote.ones hR1) ?_
  intro w8 H8
  have hpu1 : putAt [.int .i64 0, .int .i64 0, .int .i64 0, .int .i64 0, .int .i64 0, .int .i64 0, .int .i64 0, .slice none 0 0, .int .i64 0, .slice none 0 0, .int .i64 0, .string .empty, .int .i64 0, .int .i64 0, .int .i64 0, .int .i64 0] 0 cr1 = cr1 := putAt_all hk1
  rw [hpu1] at H8
  refine ops_val (ex_assign rfl) ?_
  refine ops_nil ?_
  change Run _ _ _ _ [_, _, _, _, _, _, _, _, _, _, _, _, _, _, _, _, _, _, _, _, _, _, _, _, _, _, _, _, _, _, _, _, _, _, _, _, _, _, _, _, _, _, _, _, _, _, _, _, _, _, _, _, _, _, _, _] _
  refine run_seq ?_
  refine run_region ?_
  refine ops_val (ex_move rfl) ?_
  refine ops_call_rd (ex_call gf23 rfl) (note_vrd AA b c _ (hr.to0 (HA1.all H8)) (by omega)) ?_
  intro w9 cr2 hR2 Hd
  have hR2 := rebase H8 hR2
  have HA2 := HA1.all <| (H8.call0 Hd).pick [0, 1, 2, 3, 4] (by decide)
  replace hR1 := (Fr.to hR1 H8)
  replace hR1 := (Fr.to hR1 (H8.here.call0 Hd))
  have H9 := HA2.here
  refine ops_val (ex_move rfl) ?_
  refine ops_val (ex_extract rfl rfl) ?_
  change Ops _ _ _ _ _ _ [_, _, _, _, _, _, _, _, _, _, _, _, _, _, _, _, _, _, _, _, _, _, _, _, _, _, _, _, _, _, _, _, _, _, _, _, _, _, _, _, _, _, _, _, _, _, _, _, _, _, _, _, _, _, _, _] _
  refine ops_val (ex_extract rfl rfl) ?_
  refine ops_alloc ty50 H9 ?_
  intro w10 gk2 H10 hgk2
  have hk2 : cr2.length = 16 := thnote.len hR2
  refine ops_store ty50 H10 5 rfl rfl rfl rfl hk2 (by rw [hk2]; decide) (thnote.ones hR2) ?_
  intro w11 H11
  have hpu2 : putAt [.int .i64 0, .int .i64 0, .int .i64 0, .int .i64 0, .int .i64 0, .int .i64 0, .int .i64 0, .slice none 0 0, .int .i64 0, .slice none 0 0, .int .i64 0, .string .empty, .int .i64 0, .int .i64 0, .int .i64 0, .int .i64 0] 0 cr2 = cr2 := putAt_all hk2
  rw [hpu2] at H11
  refine ops_val (ex_assign rfl) ?_
  refine ops_nil ?_
  change Run _ _ _ _ [_, _, _, _, _, _, _, _, _, _, _, _, _, _, _, _, _, _, _, _, _, _, _, _, _, _, _, _, _, _, _, _, _, _, _, _, _, _, _, _, _, _, _, _, _, _, _, _, _, _, _, _, _, _, _, _] _
  refine run_seq ?_
  refine run_region ?_
  replace hR1 := Fr.to hR1 H11
  replace hR2 := Fr.to hR2 H11
  refine ops_call_val (ex_call gf15 rfl) (awake3_any _) ?_
  intro w12 Hd
  replace hR1 := Fr.to hR1 (H11.here.call0 Hd)
  replace hR2 := Fr.to hR2 (H11.here.call0 Hd)
  have H12 := (H11.call0 Hd).pick [0, 1, 2, 3, 4, 5] (by decide)
  refine ops_val (ex_move rfl) ?_
  change Ops _ _ _ _ _ _ [_, _, _, _, _, _, _, _, _, _, _, _, _, _, _, _, _, _, _, _, _, _, _, _, _, _, _, _, _, _, _, _, _, _, _, _, _, _, _, _, _, _, _, _, _, _, _, _, _, _, _, _, _, _, _, _] _
  refine ops_yes rfl ?_
  refine ops_val (ex_move rfl) ?_
  refine ops_yes rfl ?_
  refine ops_val (ex_move rfl) ?_
  change Ops _ _ _ _ _ _ [_, _, _, _, _, _, _, _, _, _, _, _, _, _, _, _, _, _, _, _, _, _, _, _, _, _, _, _, _, _, _, _, _, _, _, _, _, _, _, _, _, _, _, _, _, _, _, _, _, _, _, _, _, _, _, _] _
  refine ops_yes rfl ?_
  have hk := bytes_any (hd ga1) (hd ga2) _ _ ca1 ca2 _ (H12.rd (i := 1) (o := ga1) (sp := sa1) rfl (u8s_length1 _) (by decide)) (H12.rd (i := 2) (o := ga2) (sp := sa2) rfl (u8s_length1 _) (by decide)) (Nat.le_trans qd1 (by decide)) (Nat.le_trans qd2 (by decide))
  rw [decide_eq_true rfl] at hk
  refine ops_call_val (ex_call gf16 rfl) hk ?_
  intro w13 Hd
  replace hR1 := Fr.to hR1 (H12.here.call0 Hd)
  replace hR2 := Fr.to hR2 (H12.here.call0 Hd)
  have H13 := (H12.call0 Hd).pick [0, 1, 2, 3, 4, 5] (by decide)
  refine ops_val (ex_pick_t rfl rfl) ?_
  refine ops_val (ex_move rfl) ?_
  change Ops _ _ _ _ _ _ [_, _, _, _, _, _, _, _, _, _, _, _, _, _, _, _, _, _, _, _, _, _, _, _, _, _, _, _, _, _, _, _, _, _, _, _, _, _, _, _, _, _, _, _, _, _, _, _, _, _, _, _, _, _, _, _] _
  refine ops_yes rfl ?_
  refine ops_val (ex_move rfl) ?_
  refine ops_yes rfl ?_
  refine ops_val (ex_move rfl) ?_
  change Ops _ _ _ _ _ _ [_, _, _, _, _, _, _, _, _, _, _, _, _, _, _, _, _, _, _, _, _, _, _, _, _, _, _, _, _, _, _, _, _, _, _, _, _, _, _, _, _, _, _, _, _, _, _, _, _, _, _, _, _, _, _, _] _
  refine ops_yes rfl ?_
  refine ops_true (ex_eql rfl rfl) (rfl) ?_
  refine ops_val (ex_pick_t rfl rfl) ?_
  refine ops_val (ex_move rfl) ?_
  change Ops _ _ _ _ _ _ [_, _, _, _, _, _, _, _, _, _, _, _, _, _, _, _, _, _, _, _, _, _, _, _, _, _, _, _, _, _, _, _, _, _, _, _, _, _, _, _, _, _, _, _, _, _, _, _, _, _, _, _, _, _, _, _] _
  refine ops_yes rfl ?_
  refine ops_val (ex_loadN ty50 rfl (vs := cr1) hk1 (H13.cells (i := 4) rfl)) ?_
  refine ops_yes rfl ?_
  refine ops_val (ex_loadN ty50 rfl (vs := cr2) hk2 (H13.cells (i := 5) rfl)) ?_
  change Ops _ _ _ _ _ _ [_, _, _, _, _, _, _, _, _, _, _, _, _, _, _, _, _, _, _, _, _, _, _, _, _, _, _, _, _, _, _, _, _, _, _, _, _, _, _, _, _, _, _, _, _, _, _, _, _, _, _, _, _, _, _, _] _
  refine ops_yes rfl ?_
  refine ops_call_val (ex_call gf24 rfl) (snote_any (gotR thnote b) cr1 cr2 _ _ _ hR1 hR2 (got_short (by omega))) ?_
  intro w14 Hd
  have H14 := H13.call0 Hd
  refine ops_val (ex_pick_t rfl rfl) ?_
  refine ops_val (ex_move rfl) ?_
  change Ops _ _ _ _ _ _ [_, _, _, _, _, _, _, _, _, _, _, _, _, _, _, _, _, _, _, _, _, _, _, _, _, _, _, _, _, _, _, _, _, _, _, _, _, _, _, _, _, _, _, _, _, _, _, _, _, _, _, _, _, _, _, _] _
  refine ops_yes rfl ?_
  refine ops_val (ex_move rfl) ?_
  refine ops_yes rfl ?_
  refine ops_val (ex_move rfl) ?_
  change Ops _ _ _ _ _ _ [_, _, _, _, _, _, _, _, _, _, _, _, _, _, _, _, _, _, _, _, _, _, _, _, _, _, _, _, _, _, _, _, _, _, _, _, _, _, _, _, _, _, _, _, _, _, _, _, _, _, _, _, _, _, _, _] _
  refine ops_yes rfl ?_
  refine ops_true (ex_eql rfl rfl) (rfl) ?_
  refine ops_val (ex_pick_t rfl rfl) ?_
  refine ops_val (ex_assign rfl) ?_
  refine ops_nil ?_
  change Run _ _ _ _ [_, _, _, _, _, _, _, _, _, _, _, _, _, _, _, _, _, _, _, _, _, _, _, _, _, _, _, _, _, _, _, _, _, _, _, _, _, _, _, _, _, _, _, _, _, _, _, _, _, _, _, _, _, _, _, _] _
  refine run_ret ?_
  refine fin_ret1 rfl rfl ?_
  exact ⟨rfl, (HA2.all H14).pick [] (by decide)⟩
end Go.Proofs.Ytoeobicpdeklaaa
