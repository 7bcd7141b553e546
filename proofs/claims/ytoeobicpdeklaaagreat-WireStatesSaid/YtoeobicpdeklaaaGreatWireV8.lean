/- Walks of layer 2, printed by wip/gen/codec.py. -/
import Derived.Test.YtoeobicpdeklaaaGreatNrm
import Derived.Test.YtoeobicpdeklaaaGreatWireV3
import Derived.Test.YtoeobicpdeklaaaGreatWireV5
import Derived.Test.YtoeobicpdeklaaaGreatWireV7
import Derived.Test.YtoeobicpdeklaaaGreatWireU
namespace Go.Proofs.YtoeobicpdeklaaaGreat
open Go Go.RowKit
set_option linter.unusedVariables false
attribute [local irreducible] Still Ops Does Cd
theorem sh_holder : thholder.Sh := (sh_flat _)
theorem sh_account : thaccount.Sh := (sh_pair (sh_pair (sh_flat _) (sh_many sh_holder)) (sh_flat _))
theorem sh_mark : thmark.Sh := (sh_flat _)
theorem sh_wait : thwait.Sh := (sh_flat _)
theorem sh_deal : thdeal.Sh := (sh_flat _)
theorem sh_end : thend.Sh := (sh_flat _)
theorem sh_stateF : thstateF.Sh := (sh_pair (sh_pair (sh_pair (sh_pair (sh_pair (sh_pair (sh_flat _) (sh_many sh_account)) (sh_many sh_mark)) (sh_many sh_wait)) (sh_many sh_deal)) (sh_many sh_end)) (sh_flat _))
theorem weak_state {w : World} {ok : Nat → Prop} {x : thstate.X} {vs : List Value} (h : thstate.M w ok x vs) : thstateF.M w ok x vs := by
  obtain ⟨r6, s6, rfl, hq6, hs6⟩ := Th.split h
  obtain ⟨r5, s5, rfl, hq5, hs5⟩ := Th.split hq6
  obtain ⟨r4, s4, rfl, hq4, hs4⟩ := Th.split hq5
  obtain ⟨r3, s3, rfl, hq3, hs3⟩ := Th.split hq4
  obtain ⟨r2, s2, rfl, hq2, hs2⟩ := Th.split hq3
  obtain ⟨s0, s1, rfl, hs0, hs1⟩ := Th.split hq2
  exact (pair_app (pair_app (pair_app (pair_app (pair_app (pair_app hs0 hs1) (many_free hs2)) hs3) hs4) hs5) hs6)
theorem rd_free_state {b : List UInt8} {w w' : World} {r : Value} (h : RdRes thstate b w w' r) : RdRes thstateF b w w' r := rd_weak5 h
set_option maxRecDepth 100000 in
set_option maxHeartbeats 4000000 in
theorem wireStates_any (x : thstateF.X) (cells : List Value) (AA : Option Addr) (b : List UInt8) (c : Nat) (w0 : World) (hM : thstateF.M w0 (fun _ => True) x cells) (hsh : Short (thstateF.fl x)) (hba : x.1.1.1.1.1.2.length * 104 ≤ 140737488351232) (hbh : ∀ i (h : i < x.1.1.1.1.1.2.length), (x.1.1.1.1.1.2[i]).1.2.length * 32 ≤ 140737488351232) (hb2 : x.1.1.1.1.2.length * 56 ≤ 140737488351232) (hb3 : x.1.1.1.2.length * 104 ≤ 140737488351232) (hb4 : x.1.1.2.length * 80 ≤ 140737488351232) (hb5 : x.1.2.length * 16 ≤ 140737488351232) (hr : Rd w0 AA b.length 1 (u8s b)) (hb : b.length ≤ 140737488351232) :
    Does Tryz.prog 3 #[.agg cells.toArray, .slice AA b.length c] w0 (fun r w' => r = .bool true ∧ Hp w0 w' [] []) := by
  refine does_of Tryz.func3 Tryz.ntmps3 rfl ?_
  refine nR57 ?_
  have hlen : cells.length = 29 := thstateF.len hM
  have H := Hp.refl w0
  refine run_seq ?_
  refine run_region ?_
  refine ops_box rfl rfl H ?_
  intro w1 g1 H1 hg1
  refine ops_val (ex_assign rfl) ?_
  refine ops_nil ?_
  refine nR57 ?_
  refine run_seq ?_
  refine run_region ?_
  refine ops_val (ex_loadN ty31 rfl (vs := cells) hlen (H1.cells (i := 0) rfl)) ?_
  refine ops_call (ex_call gf5 rfl) (copyState_any x cells _ (thstateF.mono (thstateF.to hM H1 (fun _ _ => by simp)) (fun _ _ => trivial)) hsh hba hbh hb2 hb3 hb4 hb5) ?_
  rintro _ w2 ⟨cells2, rfl, hM2, Hd⟩
  have H2 := H1.call0 Hd
  refine ops_call_wr (ex_call gf4 rfl) (show Does _ _ _ _ (fun r w' => WrRes _ w' r (wAll (thstate.fl x) W0)) from state_wr x cells2 _ hM2) ?_
  intro w3 ga1 ca1 sa1 qa1 qb1 qc1 qd1 Hd
  have H3 := H2.call0 Hd
  refine ops_val (ex_move rfl) ?_
  refine nO57 ?_
  refine ops_val (ex_extract rfl rfl) ?_
  refine ops_val (ex_extract rfl rfl) ?_
  refine ops_val (ex_assign rfl) ?_
  refine ops_val (ex_assign rfl) ?_
  refine ops_nil ?_
  refine nR57 ?_
  refine run_seq ?_
  refine run_region ?_
  refine ops_val (ex_loadN ty31 rfl (vs := cells) hlen (H3.cells (i := 0) rfl)) ?_
  refine ops_call_wr (ex_call gf6 rfl) (show Does _ _ _ _ (fun r w' => WrRes _ w' r (wAll (thstate.fl x) W0)) from state_vwr x cells _ (thstateF.mono (thstateF.to hM H3 (fun _ _ => by simp)) (fun _ _ => trivial))) ?_
  intro w4 ga2 ca2 sa2 qa2 qb2 qc2 qd2 Hd
  have H4 := H3.call0 Hd
  refine ops_val (ex_move rfl) ?_
  refine ops_val (ex_extract rfl rfl) ?_
  refine nO57 ?_
  refine ops_val (ex_extract rfl rfl) ?_
  refine ops_val (ex_assign rfl) ?_
  refine ops_val (ex_assign rfl) ?_
  refine ops_nil ?_
  refine nR57 ?_
  refine run_seq ?_
  refine run_region ?_
  refine ops_buildSlice Tryz.underlying29 ty5 H4 (cs := []) rfl (by decide) rfl ?_
  intro w5 gb H5 hgb
  refine ops_val (ex_move rfl) ?_
  refine ops_append Tryz.underlying29 ty5 (by decide) H5 3 (g := some gb) (xs := []) (sp := []) rfl rfl rfl (by decide) (by decide) (by simp) rfl (hr.to0 H5) (u8s_one' b) (by omega) (by omega) (by decide) ?_
  intro w6 gA cA sA H6 hcA hmA hgA
  obtain ⟨bl0, hbl0⟩ : ∃ m, 0 + b.length = m := ⟨_, rfl⟩
  rw [hbl0]
  have hbl1 : bl0 = b.length := by omega
  subst hbl1
  refine ops_call_rd (ex_call gf7 rfl) (show Does _ _ _ _ (fun r w' => RdRes thstateF b _ w' r) from (state_rd (hd gA) b cA _ (H6.rd (i := 3) (o := gA) (xs := u8s b) (sp := sA) rfl (u8s_length1 b) (by decide)) (by omega)).mono fun _ _ h => rd_free_state h) ?_
  intro w7 cr1 hR1 Hd
  have hR1 := rebase H6 hR1
  have HA1 := (H6.call0 Hd).pick [0, 1, 2, 3] (by decide)
  have H7 := HA1.here
  refine nO57 ?_
  refine ops_val (ex_move rfl) ?_
  refine ops_val (ex_extract rfl rfl) ?_
  refine ops_val (ex_extract rfl rfl) ?_
  refine ops_alloc ty31 H7 ?_
  intro w8 gk1 H8 hgk1
  refine nO57 ?_
  have hk1 : cr1.length = 29 := thstateF.len hR1
  refine ops_store ty31 H8 4 rfl rfl rfl rfl hk1 (by rw [hk1]; decide) (thstateF.ones hR1) ?_
  intro w9 H9
  have hpu1 : putAt [.int .i64 0, .int .i64 0, .bool false, .string .empty, .string .empty, .int .i64 0, .slice none 0 0, .slice none 0 0, .slice none 0 0, .slice none 0 0, .slice none 0 0, .int .i64 0, .int .i64 0, .int .i64 0, .string .empty, .string .empty, .int .i64 0, .int .i64 0, .int .i64 0, .int .i64 0, .int .i64 0, .string .empty, .string .empty, .int .i64 0, .int .i64 0, .slice none 0 0, .int .i64 0, .int .i64 0, .int .i64 0] 0 cr1 = cr1 := putAt_all hk1
  rw [hpu1] at H9
  refine ops_val (ex_assign rfl) ?_
  refine ops_nil ?_
  refine nR57 ?_
  refine run_seq ?_
  refine run_region ?_
  refine ops_val (ex_move rfl) ?_
  refine ops_call_rd (ex_call gf8 rfl) (show Does _ _ _ _ (fun r w' => RdRes thstateF b _ w' r) from state_vrd AA b c _ (hr.to0 (HA1.all H9)) (by omega)) ?_
  intro w10 cr2 hR2 Hd
  have hR2 := rebase H9 hR2
  have HA2 := HA1.all <| (H9.call0 Hd).pick [0, 1, 2, 3, 4] (by decide)
  replace hR1 := (Fr.to hR1 H9)
  replace hR1 := (Fr.to hR1 (H9.here.call0 Hd))
  have H10 := HA2.here
  refine ops_val (ex_move rfl) ?_
  refine ops_val (ex_extract rfl rfl) ?_
  refine nO57 ?_
  refine ops_val (ex_extract rfl rfl) ?_
  refine ops_alloc ty31 H10 ?_
  intro w11 gk2 H11 hgk2
  have hk2 : cr2.length = 29 := thstateF.len hR2
  refine ops_store ty31 H11 5 rfl rfl rfl rfl hk2 (by rw [hk2]; decide) (thstateF.ones hR2) ?_
  intro w12 H12
  have hpu2 : putAt [.int .i64 0, .int .i64 0, .bool false, .string .empty, .string .empty, .int .i64 0, .slice none 0 0, .slice none 0 0, .slice none 0 0, .slice none 0 0, .slice none 0 0, .int .i64 0, .int .i64 0, .int .i64 0, .string .empty, .string .empty, .int .i64 0, .int .i64 0, .int .i64 0, .int .i64 0, .int .i64 0, .string .empty, .string .empty, .int .i64 0, .int .i64 0, .slice none 0 0, .int .i64 0, .int .i64 0, .int .i64 0] 0 cr2 = cr2 := putAt_all hk2
  rw [hpu2] at H12
  refine ops_val (ex_assign rfl) ?_
  refine ops_nil ?_
  refine nR57 ?_
  refine run_seq ?_
  refine run_region ?_
  replace hR1 := Fr.to hR1 H12
  replace hR2 := Fr.to hR2 H12
  refine ops_call_val (ex_call gf9 rfl) (awake3_any _) ?_
  intro w13 Hd
  replace hR1 := Fr.to hR1 (H12.here.call0 Hd)
  replace hR2 := Fr.to hR2 (H12.here.call0 Hd)
  have H13 := (H12.call0 Hd).pick [0, 1, 2, 3, 4, 5] (by decide)
  refine ops_val (ex_move rfl) ?_
  refine nO57 ?_
  refine ops_yes rfl ?_
  refine ops_val (ex_move rfl) ?_
  refine ops_yes rfl ?_
  refine ops_val (ex_move rfl) ?_
  refine nO57 ?_
  refine ops_yes rfl ?_
  have hk := bytes_any (hd ga1) (hd ga2) _ _ ca1 ca2 _ (H13.rd (i := 1) (o := ga1) (sp := sa1) rfl (u8s_length1 _) (by decide)) (H13.rd (i := 2) (o := ga2) (sp := sa2) rfl (u8s_length1 _) (by decide)) (Nat.le_trans qd1 (by decide)) (Nat.le_trans qd2 (by decide))
  rw [decide_eq_true rfl] at hk
  refine ops_call_val (ex_call gf10 rfl) hk ?_
  intro w14 Hd
  replace hR1 := Fr.to hR1 (H13.here.call0 Hd)
  replace hR2 := Fr.to hR2 (H13.here.call0 Hd)
  have H14 := (H13.call0 Hd).pick [0, 1, 2, 3, 4, 5] (by decide)
  refine ops_val (ex_pick_t rfl rfl) ?_
  refine ops_val (ex_move rfl) ?_
  refine nO57 ?_
  refine ops_yes rfl ?_
  refine ops_val (ex_move rfl) ?_
  refine ops_yes rfl ?_
  refine ops_val (ex_move rfl) ?_
  refine nO57 ?_
  refine ops_yes rfl ?_
  refine ops_true (ex_eql rfl rfl) (rfl) ?_
  refine ops_val (ex_pick_t rfl rfl) ?_
  refine ops_val (ex_move rfl) ?_
  refine nO57 ?_
  refine ops_yes rfl ?_
  refine ops_val (ex_loadN ty31 rfl (vs := cr1) hk1 (H14.cells (i := 4) rfl)) ?_
  refine ops_yes rfl ?_
  refine ops_val (ex_loadN ty31 rfl (vs := cr2) hk2 (H14.cells (i := 5) rfl)) ?_
  refine nO57 ?_
  refine ops_yes rfl ?_
  refine ops_call_val (ex_call gf11 rfl) (sstateF_any (gotR thstateF b) cr1 cr2 _ _ _ hR1 hR2 (got_sh sh_stateF (by omega))) ?_
  intro w15 Hd
  have H15 := H14.call0 Hd
  refine ops_val (ex_pick_t rfl rfl) ?_
  refine ops_val (ex_move rfl) ?_
  refine nO57 ?_
  refine ops_yes rfl ?_
  refine ops_val (ex_move rfl) ?_
  refine ops_yes rfl ?_
  refine ops_val (ex_move rfl) ?_
  refine nO57 ?_
  refine ops_yes rfl ?_
  refine ops_true (ex_eql rfl rfl) (rfl) ?_
  refine ops_val (ex_pick_t rfl rfl) ?_
  refine ops_val (ex_assign rfl) ?_
  refine ops_nil ?_
  refine nR57 ?_
  refine run_ret ?_
  refine fin_ret1 rfl rfl ?_
  exact ⟨rfl, (HA2.all H15).pick [] (by decide)⟩
end Go.Proofs.YtoeobicpdeklaaaGreat
