/- Walks of layer 2, printed by wip/gen/codec.py. -/
import Derived.Test.YtoeobicpdeklaaaWireY1
import Derived.Test.YtoeobicpdeklaaaWireY3
import Derived.Test.YtoeobicpdeklaaaWireY4
import Derived.Test.YtoeobicpdeklaaaWireU
namespace Go.Proofs.Ytoeobicpdeklaaa
open Go Go.RowKit
set_option linter.unusedVariables false
attribute [local irreducible] Still Ops Does Cd
theorem sh_vote : thvote.Sh := (sh_flat _)

theorem sh_entry : thentry.Sh := (sh_flat _)

theorem sh_letter : thletter.Sh := (sh_pair (sh_pair (sh_pair (sh_flat _) (sh_many sh_vote)) (sh_many sh_entry)) (sh_flat _))
theorem sh_posted : thposted.Sh := (sh_pair (sh_pair (sh_pair (sh_flat _) (sh_many sh_vote)) (sh_many sh_entry)) (sh_flat _))
theorem post_short {b : List UInt8} {n : Int} {x : thletter.X} (h : gotR thposted b = post n x) (hb : b.length ≤ 140737488351232) : Short (thletter.fl x) := by
  have h1 := got_sh sh_posted hb
  rw [h] at h1
  intro s hs
  exact h1 s (List.mem_cons_of_mem _ hs)
set_option maxRecDepth 100000 in
set_option maxHeartbeats 4000000 in
theorem wireLetters_any (n : Int) (x : thletter.X) (cells : List Value) (AA : Option Addr) (b : List UInt8) (c : Nat) (w0 : World) (hn : -9223372036854775808 ≤ n ∧ n ≤ 9223372036854775807) (hM : thletter.M w0 (fun _ => True) x cells) (hr : Rd w0 AA b.length 1 (u8s b)) (hb : b.length ≤ 140737488351232) :
    Does Try.prog 7 #[.int .i64 n, .agg cells.toArray, .slice AA b.length c] w0 (fun r w' => r = .bool true ∧ Hp w0 w' [] []) := by
  refine does_of Try.func7 Try.ntmps7 rfl ?_
  change Run _ _ _ _ [.int .i64 n, .agg cells.toArray, .slice AA b.length c, undef, undef, undef, undef, undef, undef, undef, undef, undef, undef, undef, undef, undef, undef, undef, undef, undef, undef, undef, undef, undef, undef, undef, undef, undef, undef, undef, undef, undef, undef, undef, undef, undef, undef, undef, undef, undef, undef, undef, undef, undef, undef, undef, undef, undef, undef, undef, undef, undef, undef, undef, undef, undef, undef, undef, undef, undef, undef, undef, undef, undef, undef, undef, undef, undef, undef, undef] _
  have hlen : cells.length = 13 := thletter.len hM
  obtain ⟨a0, a1, a2, a3, a4, a5, a6, a7, a8, a9, a10, a11, a12, rfl⟩ : ∃ a0 a1 a2 a3 a4 a5 a6 a7 a8 a9 a10 a11 a12, cells = [a0, a1, a2, a3, a4, a5, a6, a7, a8, a9, a10, a11, a12] := by
    match cells, hlen with
    | [a0, a1, a2, a3, a4, a5, a6, a7, a8, a9, a10, a11, a12], _ => exact ⟨_, _, _, _, _, _, _, _, _, _, _, _, _, rfl⟩
  have H := Hp.refl w0
  refine run_seq ?_
  refine run_region ?_
  refine ops_box rfl rfl H ?_
  intro w1 g1 H1 hg1
  refine ops_val (ex_assign rfl) ?_
  refine ops_nil ?_
  change Run _ _ _ _ [_, _, _, _, _, _, _, _, _, _, _, _, _, _, _, _, _, _, _, _, _, _, _, _, _, _, _, _, _, _, _, _, _, _, _, _, _, _, _, _, _, _, _, _, _, _, _, _, _, _, _, _, _, _, _, _, _, _, _, _, _, _, _, _, _, _, _, _, _, _] _
  refine run_seq ?_
  refine run_region ?_
  refine ops_val (ex_move rfl) ?_
  refine ops_val (ex_loadN ty72 rfl (vs := [a0, a1, a2, a3, a4, a5, a6, a7, a8, a9, a10, a11, a12]) rfl (H1.cells (i := 0) rfl)) ?_
  refine ops_call_wr (ex_call gf31 rfl) (show Does _ _ _ _ (fun r w' => WrRes _ w' r (wAll (thposted.fl (post n x)) W0)) from letter_wr n x [a0, a1, a2, a3, a4, a5, a6, a7, a8, a9, a10, a11, a12] _ hn (thletter.mono (thletter.to hM H1 (fun _ _ => by simp)) (fun _ _ => trivial))) ?_
  intro w2 ga1 ca1 sa1 qa1 qb1 qc1 qd1 Hd
  have H2 := H1.call0 Hd
  refine ops_val (ex_move rfl) ?_
  change Ops _ _ _ _ _ _ [_, _, _, _, _, _, _, _, _, _, _, _, _, _, _, _, _, _, _, _, _, _, _, _, _, _, _, _, _, _, _, _, _, _, _, _, _, _, _, _, _, _, _, _, _, _, _, _, _, _, _, _, _, _, _, _, _, _, _, _, _, _, _, _, _, _, _, _, _, _] _
  refine ops_val (ex_extract rfl rfl) ?_
  refine ops_val (ex_extract rfl rfl) ?_
  refine ops_val (ex_assign rfl) ?_
  refine ops_val (ex_assign rfl) ?_
  refine ops_nil ?_
  change Run _ _ _ _ [_, _, _, _, _, _, _, _, _, _, _, _, _, _, _, _, _, _, _, _, _, _, _, _, _, _, _, _, _, _, _, _, _, _, _, _, _, _, _, _, _, _, _, _, _, _, _, _, _, _, _, _, _, _, _, _, _, _, _, _, _, _, _, _, _, _, _, _, _, _] _
  refine run_seq ?_
  refine run_region ?_
  refine ops_val (ex_move rfl) ?_
  refine ops_val (ex_loadN ty72 rfl (vs := [a0, a1, a2, a3, a4, a5, a6, a7, a8, a9, a10, a11, a12]) rfl (H2.cells (i := 0) rfl)) ?_
  refine ops_val (ex_build ty76 pl76 rfl rfl) ?_
  refine ops_call_wr (ex_call gf32 rfl) (show Does _ _ _ _ (fun r w' => WrRes _ w' r (wAll (thposted.fl (post n x)) W0)) from posted_vwr (post n x) (.int .i64 n :: [a0, a1, a2, a3, a4, a5, a6, a7, a8, a9, a10, a11, a12]) _ (post_M hn (thletter.mono (thletter.to hM H2 (fun _ _ => by simp)) (fun _ _ => trivial)))) ?_
  intro w3 ga2 ca2 sa2 qa2 qb2 qc2 qd2 Hd
  have H3 := H2.call0 Hd
  change Ops _ _ _ _ _ _ [_, _, _, _, _, _, _, _, _, _, _, _, _, _, _, _, _, _, _, _, _, _, _, _, _, _, _, _, _, _, _, _, _, _, _, _, _, _, _, _, _, _, _, _, _, _, _, _, _, _, _, _, _, _, _, _, _, _, _, _, _, _, _, _, _, _, _, _, _, _] _
  refine ops_val (ex_move rfl) ?_
  refine ops_val (ex_extract rfl rfl) ?_
  refine ops_val (ex_extract rfl rfl) ?_
  refine ops_val (ex_assign rfl) ?_
  change Ops _ _ _ _ _ _ [_, _, _, _, _, _, _, _, _, _, _, _, _, _, _, _, _, _, _, _, _, _, _, _, _, _, _, _, _, _, _, _, _, _, _, _, _, _, _, _, _, _, _, _, _, _, _, _, _, _, _, _, _, _, _, _, _, _, _, _, _, _, _, _, _, _, _, _, _, _] _
  refine ops_val (ex_assign rfl) ?_
  refine ops_nil ?_
  change Run _ _ _ _ [_, _, _, _, _, _, _, _, _, _, _, _, _, _, _, _, _, _, _, _, _, _, _, _, _, _, _, _, _, _, _, _, _, _, _, _, _, _, _, _, _, _, _, _, _, _, _, _, _, _, _, _, _, _, _, _, _, _, _, _, _, _, _, _, _, _, _, _, _, _] _
  refine run_seq ?_
  refine run_region ?_
  refine ops_buildSlice Try.underlying26 ty5 H3 (cs := []) rfl (by decide) rfl ?_
  intro w4 gb H4 hgb
  refine ops_val (ex_move rfl) ?_
  refine ops_append Try.underlying26 ty5 (by decide) H4 3 (g := some gb) (xs := []) (sp := []) rfl rfl rfl (by decide) (by decide) (by simp) rfl (hr.to0 H4) (u8s_one' b) (by omega) (by omega) (by decide) ?_
  intro w5 gA cA sA H5 hcA hmA hgA
  obtain ⟨bl0, hbl0⟩ : ∃ m, 0 + b.length = m := ⟨_, rfl⟩
  rw [hbl0]
  have hbl1 : bl0 = b.length := by omega
  subst hbl1
  refine ops_call (ex_call gf33 rfl) (letter_rd (hd gA) b cA _ (H5.rd (i := 3) (o := gA) (xs := u8s b) (sp := sA) rfl (u8s_length1 b) (by decide)) (by omega)) ?_
  rintro _ w6 ⟨n2, x2, cr1, hgot, hn2, rfl, hR1, Hd⟩
  replace hR1 := rebase (A := thletter) H5 hR1
  have HA1 := (H5.call0 Hd).pick [0, 1, 2, 3] (by decide)
  have H6 := HA1.here
  have hk1 : cr1.length = 13 := thletter.len hR1
  have ho1 := thletter.ones hR1
  change Ops _ _ _ _ _ _ [_, _, _, _, _, _, _, _, _, _, _, _, _, _, _, _, _, _, _, _, _, _, _, _, _, _, _, _, _, _, _, _, _, _, _, _, _, _, _, _, _, _, _, _, _, _, _, _, _, _, _, _, _, _, _, _, _, _, _, _, _, _, _, _, _, _, _, _, _, _] _
  refine ops_val (ex_move rfl) ?_
  refine ops_val (ex_extract rfl rfl) ?_
  refine ops_val (ex_extract rfl rfl) ?_
  refine ops_val (ex_extract rfl rfl) ?_
  change Ops _ _ _ _ _ _ [_, _, _, _, _, _, _, _, _, _, _, _, _, _, _, _, _, _, _, _, _, _, _, _, _, _, _, _, _, _, _, _, _, _, _, _, _, _, _, _, _, _, _, _, _, _, _, _, _, _, _, _, _, _, _, _, _, _, _, _, _, _, _, _, _, _, _, _, _, _] _
  refine ops_alloc ty72 H6 ?_
  intro w7 gk1 H7 hgk1
  refine ops_val (ex_assign rfl) ?_
  refine ops_store ty72 H7 4 rfl rfl rfl rfl hk1 (by rw [hk1]; decide) ho1 ?_
  intro w8 H8
  have hpu1 : putAt [.int .i64 0, .int .i64 0, .int .i64 0, .int .i64 0, .int .i64 0, .int .i64 0, .int .i64 0, .slice none 0 0, .slice none 0 0, .int .i64 0, .int .i64 0, .int .u32 0, .slice none 0 0] 0 cr1 = cr1 := putAt_all hk1
  rw [hpu1] at H8
  refine ops_val (ex_assign rfl) ?_
  refine ops_nil ?_
  change Run _ _ _ _ [_, _, _, _, _, _, _, _, _, _, _, _, _, _, _, _, _, _, _, _, _, _, _, _, _, _, _, _, _, _, _, _, _, _, _, _, _, _, _, _, _, _, _, _, _, _, _, _, _, _, _, _, _, _, _, _, _, _, _, _, _, _, _, _, _, _, _, _, _, _] _
  refine run_seq ?_
  refine run_region ?_
  refine ops_val (ex_move rfl) ?_
  refine ops_call_rd (ex_call gf34 rfl) (posted_vrd AA b c _ (hr.to0 (HA1.all H8)) (by omega)) ?_
  intro w9 cr0 hR2 Hd
  replace hR2 := rebase (A := thposted) H8 hR2
  have HA2 := HA1.all <| (H8.call0 Hd).pick [0, 1, 2, 3, 4] (by decide)
  replace hR1 := Fr.to (A := thletter) hR1 H8
  replace hR1 := Fr.to (A := thletter) hR1 (H8.here.call0 Hd)
  rw [hgot] at hR2
  have hk2 : cr0.length = 14 := thposted.len hR2
  have ho2 := thposted.ones hR2
  obtain ⟨cr2, rfl, hL2⟩ := post_in hR2
  have hl2 : cr2.length = 13 := thletter.len hL2
  have H9 := HA2.here
  refine ops_val (ex_move rfl) ?_
  refine ops_val (ex_extract rfl rfl) ?_
  change Ops _ _ _ _ _ _ [_, _, _, _, _, _, _, _, _, _, _, _, _, _, _, _, _, _, _, _, _, _, _, _, _, _, _, _, _, _, _, _, _, _, _, _, _, _, _, _, _, _, _, _, _, _, _, _, _, _, _, _, _, _, _, _, _, _, _, _, _, _, _, _, _, _, _, _, _, _] _
  refine ops_val (ex_extract rfl rfl) ?_
  refine ops_alloc ty76 H9 ?_
  intro w10 gk2 H10 hgk2
  refine ops_store ty76 H10 5 rfl rfl rfl rfl hk2 (by rw [hk2]; decide) ho2 ?_
  intro w11 H11
  have hpu2 : putAt [.int .i64 0, .int .i64 0, .int .i64 0, .int .i64 0, .int .i64 0, .int .i64 0, .int .i64 0, .int .i64 0, .slice none 0 0, .slice none 0 0, .int .i64 0, .int .i64 0, .int .u32 0, .slice none 0 0] 0 (.int .i64 n2 :: cr2) = (.int .i64 n2 :: cr2) := putAt_all hk2
  rw [hpu2] at H11
  refine ops_val (ex_assign rfl) ?_
  refine ops_nil ?_
  change Run _ _ _ _ [_, _, _, _, _, _, _, _, _, _, _, _, _, _, _, _, _, _, _, _, _, _, _, _, _, _, _, _, _, _, _, _, _, _, _, _, _, _, _, _, _, _, _, _, _, _, _, _, _, _, _, _, _, _, _, _, _, _, _, _, _, _, _, _, _, _, _, _, _, _] _
  refine run_seq ?_
  refine run_region ?_
  replace hR1 := Fr.to (A := thletter) hR1 H11
  replace hL2 := Fr.to (A := thletter) hL2 H11
  refine ops_call_val (ex_call gf15 rfl) (awake3_any _) ?_
  intro w12 Hd
  replace hR1 := Fr.to (A := thletter) hR1 (H11.here.call0 Hd)
  replace hL2 := Fr.to (A := thletter) hL2 (H11.here.call0 Hd)
  have H12 := (H11.call0 Hd).pick [0, 1, 2, 3, 4, 5] (by decide)
  refine ops_val (ex_move rfl) ?_
  change Ops _ _ _ _ _ _ [_, _, _, _, _, _, _, _, _, _, _, _, _, _, _, _, _, _, _, _, _, _, _, _, _, _, _, _, _, _, _, _, _, _, _, _, _, _, _, _, _, _, _, _, _, _, _, _, _, _, _, _, _, _, _, _, _, _, _, _, _, _, _, _, _, _, _, _, _, _] _
  refine ops_yes rfl ?_
  refine ops_val (ex_move rfl) ?_
  refine ops_yes rfl ?_
  refine ops_val (ex_move rfl) ?_
  change Ops _ _ _ _ _ _ [_, _, _, _, _, _, _, _, _, _, _, _, _, _, _, _, _, _, _, _, _, _, _, _, _, _, _, _, _, _, _, _, _, _, _, _, _, _, _, _, _, _, _, _, _, _, _, _, _, _, _, _, _, _, _, _, _, _, _, _, _, _, _, _, _, _, _, _, _, _] _
  refine ops_yes rfl ?_
  have hk := bytes_any (hd ga1) (hd ga2) _ _ ca1 ca2 _ (H12.rd (i := 1) (o := ga1) (sp := sa1) rfl (u8s_length1 _) (by decide)) (H12.rd (i := 2) (o := ga2) (sp := sa2) rfl (u8s_length1 _) (by decide)) (Nat.le_trans qd1 (by decide)) (Nat.le_trans qd2 (by decide))
  rw [decide_eq_true rfl] at hk
  refine ops_call_val (ex_call gf16 rfl) hk ?_
  intro w13 Hd
  replace hR1 := Fr.to (A := thletter) hR1 (H12.here.call0 Hd)
  replace hL2 := Fr.to (A := thletter) hL2 (H12.here.call0 Hd)
  have H13 := (H12.call0 Hd).pick [0, 1, 2, 3, 4, 5] (by decide)
  refine ops_val (ex_pick_t rfl rfl) ?_
  refine ops_val (ex_move rfl) ?_
  change Ops _ _ _ _ _ _ [_, _, _, _, _, _, _, _, _, _, _, _, _, _, _, _, _, _, _, _, _, _, _, _, _, _, _, _, _, _, _, _, _, _, _, _, _, _, _, _, _, _, _, _, _, _, _, _, _, _, _, _, _, _, _, _, _, _, _, _, _, _, _, _, _, _, _, _, _, _] _
  refine ops_yes rfl ?_
  refine ops_val (ex_move rfl) ?_
  refine ops_yes rfl ?_
  refine ops_val (ex_move rfl) ?_
  change Ops _ _ _ _ _ _ [_, _, _, _, _, _, _, _, _, _, _, _, _, _, _, _, _, _, _, _, _, _, _, _, _, _, _, _, _, _, _, _, _, _, _, _, _, _, _, _, _, _, _, _, _, _, _, _, _, _, _, _, _, _, _, _, _, _, _, _, _, _, _, _, _, _, _, _, _, _] _
  refine ops_yes rfl ?_
  refine ops_true (ex_eql rfl rfl) (rfl) ?_
  refine ops_val (ex_pick_t rfl rfl) ?_
  refine ops_val (ex_move rfl) ?_
  change Ops _ _ _ _ _ _ [_, _, _, _, _, _, _, _, _, _, _, _, _, _, _, _, _, _, _, _, _, _, _, _, _, _, _, _, _, _, _, _, _, _, _, _, _, _, _, _, _, _, _, _, _, _, _, _, _, _, _, _, _, _, _, _, _, _, _, _, _, _, _, _, _, _, _, _, _, _] _
  refine ops_yes rfl ?_
  refine ops_val (ex_move rfl) ?_
  refine ops_yes rfl ?_
  refine ops_val (ex_fieldAddr fl76_0 rfl) ?_
  change Ops _ _ _ _ _ _ [_, _, _, _, _, _, _, _, _, _, _, _, _, _, _, _, _, _, _, _, _, _, _, _, _, _, _, _, _, _, _, _, _, _, _, _, _, _, _, _, _, _, _, _, _, _, _, _, _, _, _, _, _, _, _, _, _, _, _, _, _, _, _, _, _, _, _, _, _, _] _
  refine ops_yes rfl ?_
  refine ops_val (ex_load ty3 rfl (H13.cell (i := 5) rfl rfl)) ?_
  refine ops_yes rfl ?_
  refine ops_true (ex_eql rfl rfl) (rfl) ?_
  refine ops_val (ex_pick_t rfl rfl) ?_
  refine ops_val (ex_move rfl) ?_
  change Ops _ _ _ _ _ _ [_, _, _, _, _, _, _, _, _, _, _, _, _, _, _, _, _, _, _, _, _, _, _, _, _, _, _, _, _, _, _, _, _, _, _, _, _, _, _, _, _, _, _, _, _, _, _, _, _, _, _, _, _, _, _, _, _, _, _, _, _, _, _, _, _, _, _, _, _, _] _
  refine ops_yes rfl ?_
  refine ops_val (ex_loadN ty72 rfl (vs := cr1) hk1 (H13.cells (i := 4) rfl)) ?_
  refine ops_yes rfl ?_
  refine ops_val (ex_fieldAddr fl76_1 rfl) ?_
  change Ops _ _ _ _ _ _ [_, _, _, _, _, _, _, _, _, _, _, _, _, _, _, _, _, _, _, _, _, _, _, _, _, _, _, _, _, _, _, _, _, _, _, _, _, _, _, _, _, _, _, _, _, _, _, _, _, _, _, _, _, _, _, _, _, _, _, _, _, _, _, _, _, _, _, _, _, _] _
  refine ops_yes rfl ?_
  refine ops_val (ex_loadN ty72 rfl (vs := cr2) hl2 (H13.cellsAt (i := 5) rfl (at_one _ cr2))) ?_
  refine ops_yes rfl ?_
  refine ops_call_val (ex_call gf35 rfl) (sletter_any x2 cr1 cr2 _ _ _ hR1 hL2 (post_short hgot (by omega))) ?_
  intro w14 Hd
  have H14 := H13.call0 Hd
  refine ops_val (ex_pick_t rfl rfl) ?_
  refine ops_val (ex_move rfl) ?_
  change Ops _ _ _ _ _ _ [_, _, _, _, _, _, _, _, _, _, _, _, _, _, _, _, _, _, _, _, _, _, _, _, _, _, _, _, _, _, _, _, _, _, _, _, _, _, _, _, _, _, _, _, _, _, _, _, _, _, _, _, _, _, _, _, _, _, _, _, _, _, _, _, _, _, _, _, _, _] _
  refine ops_yes rfl ?_
  refine ops_val (ex_move rfl) ?_
  refine ops_yes rfl ?_
  refine ops_val (ex_move rfl) ?_
  change Ops _ _ _ _ _ _ [_, _, _, _, _, _, _, _, _, _, _, _, _, _, _, _, _, _, _, _, _, _, _, _, _, _, _, _, _, _, _, _, _, _, _, _, _, _, _, _, _, _, _, _, _, _, _, _, _, _, _, _, _, _, _, _, _, _, _, _, _, _, _, _, _, _, _, _, _, _] _
  refine ops_yes rfl ?_
  refine ops_true (ex_eql rfl rfl) (rfl) ?_
  refine ops_val (ex_pick_t rfl rfl) ?_
  refine ops_val (ex_assign rfl) ?_
  refine ops_nil ?_
  change Run _ _ _ _ [_, _, _, _, _, _, _, _, _, _, _, _, _, _, _, _, _, _, _, _, _, _, _, _, _, _, _, _, _, _, _, _, _, _, _, _, _, _, _, _, _, _, _, _, _, _, _, _, _, _, _, _, _, _, _, _, _, _, _, _, _, _, _, _, _, _, _, _, _, _] _
  refine run_ret ?_
  refine fin_ret1 rfl rfl ?_
  exact ⟨rfl, (HA2.all H14).pick [] (by decide)⟩
end Go.Proofs.Ytoeobicpdeklaaa
