/- Walks of layer 2, printed by wip/gen/codec.py. -/
import Derived.Test.YtoeobicpdeklaaaWireR1
import Derived.Test.YtoeobicpdeklaaaWireR2
import Derived.Test.YtoeobicpdeklaaaWireU
import Derived.Test.YtoeobicpdeklaaaOne
namespace Go.Proofs.Ytoeobicpdeklaaa
open Go Go.RowKit
set_option linter.unusedVariables false
attribute [local irreducible] Still Ops Does Cd
theorem one_vote : thvote.One := (one_flat _)
theorem one_entry : thentry.One := (one_flat _)
theorem one_place : thplace.One := (one_flat _)
theorem one_mark : thmark.One := (one_flat _)
theorem one_holder : thholder.One := (one_flat _)
theorem one_wait : thwait.One := (one_flat _)
theorem one_deal : thdeal.One := (one_flat _)
theorem one_end : thend.One := (one_flat _)
theorem one_command : thcommand.One := (one_flat _)
theorem one_note : thnote.One := (one_flat _)
theorem one_account : thaccount.One := (one_pair (one_pair (one_flat _) (one_many one_holder)) (one_flat _))
theorem one_chart : thchart.One := (one_pair (one_pair (one_pair (one_flat _) (one_many one_place)) (one_flat _)) (one_many one_mark))
theorem one_state : thstate.One := (one_pair (one_pair (one_pair (one_pair (one_pair (one_pair (one_flat _) (one_many one_account)) (one_many one_mark)) (one_many one_wait)) (one_many one_deal)) (one_many one_end)) (one_flat _))
set_option maxRecDepth 100000 in
set_option maxHeartbeats 4000000 in
theorem wireOneForm_any (AA : Option Addr) (b : List UInt8) (c : Nat) (w0 : World) (hr : Rd w0 AA b.length 1 (u8s b)) (hb : b.length ≤ 140737488351232) :
    Does Try.prog 9 #[.slice AA b.length c] w0 (fun r w' => r = .bool true ∧ Hp w0 w' [] []) := by
  refine does_of Try.func9 Try.ntmps9 rfl ?_
  change Run _ _ _ _ [.slice AA b.length c, undef, undef, undef, undef, undef, undef, undef, undef, undef, undef, undef, undef, undef, undef, undef, undef, undef, undef, undef, undef, undef, undef, undef, undef, undef, undef, undef, undef, undef, undef, undef, undef, undef, undef, undef, undef, undef, undef, undef, undef, undef, undef, undef, undef, undef, undef, undef, undef, undef, undef, undef, undef, undef, undef, undef, undef, undef, undef, undef, undef, undef, undef, undef, undef, undef, undef, undef, undef, undef, undef, undef, undef, undef, undef, undef, undef, undef, undef, undef, undef, undef, undef, undef, undef, undef, undef, undef, undef, undef, undef, undef, undef, undef, undef, undef, undef] _
  have H := Hp.refl w0
  have HA := Hp.refl w0
  refine run_seq ?_
  refine run_region ?_
  refine ops_val (ex_assign rfl) ?_
  refine ops_nil ?_
  change Run _ _ _ _ [_, _, _, _, _, _, _, _, _, _, _, _, _, _, _, _, _, _, _, _, _, _, _, _, _, _, _, _, _, _, _, _, _, _, _, _, _, _, _, _, _, _, _, _, _, _, _, _, _, _, _, _, _, _, _, _, _, _, _, _, _, _, _, _, _, _, _, _, _, _, _, _, _, _, _, _, _, _, _, _, _, _, _, _, _, _, _, _, _, _, _, _, _, _, _, _, _] _
  refine run_seq ?_
  refine run_seq ?_
  refine run_region ?_
  refine ops_call_val (ex_call gf15 rfl) (awake3_any _) ?_
  intro w1 Hd
  replace HA := H.call0 Hd
  have H1 := Hp.refl w1
  refine ops_val (ex_not rfl) ?_
  refine ops_nil ?_
  change Run _ _ _ _ [_, _, _, _, _, _, _, _, _, _, _, _, _, _, _, _, _, _, _, _, _, _, _, _, _, _, _, _, _, _, _, _, _, _, _, _, _, _, _, _, _, _, _, _, _, _, _, _, _, _, _, _, _, _, _, _, _, _, _, _, _, _, _, _, _, _, _, _, _, _, _, _, _, _, _, _, _, _, _, _, _, _, _, _, _, _, _, _, _, _, _, _, _, _, _, _, _] _
  refine run_cond_false rfl ?_
  refine run_skip ?_
  refine run_seq ?_
  refine run_region ?_
  refine ops_val (ex_move rfl) ?_
  replace HA := HA.call0 (H1.pick [] (by decide))
  refine ops_call_rd (ex_call gf13 rfl) (command_rd AA b c _ (hr.to0 HA) (by omega)) ?_
  intro w2 cr hR Hd
  replace HA := HA.call0 Hd
  have H2 := Hp.refl w2
  refine ops_val (ex_move rfl) ?_
  refine ops_val (ex_extract rfl rfl) ?_
  change Ops _ _ _ _ _ _ [_, _, _, _, _, _, _, _, _, _, _, _, _, _, _, _, _, _, _, _, _, _, _, _, _, _, _, _, _, _, _, _, _, _, _, _, _, _, _, _, _, _, _, _, _, _, _, _, _, _, _, _, _, _, _, _, _, _, _, _, _, _, _, _, _, _, _, _, _, _, _, _, _, _, _, _, _, _, _, _, _, _, _, _, _, _, _, _, _, _, _, _, _, _, _, _, _] _
  refine ops_val (ex_extract rfl rfl) ?_
  refine ops_alloc ty28 H2 ?_
  intro w3 gk H3 hgk
  have hk : cr.length = 25 := thcommand.len hR
  refine ops_store ty28 H3 0 rfl rfl rfl rfl hk (by rw [hk]; decide) (thcommand.ones hR) ?_
  intro w4 H4
  have hpu : putAt [.int .i64 0, .int .i64 0, .int .i64 0, .int .i64 0, .int .i64 0, .int .i64 0, .string .empty, .int .i64 0, .int .i64 0, .int .i64 0, .bool false, .int .i64 0, .string .empty, .string .empty, .int .i64 0, .int .i64 0, .int .i64 0, .int .i64 0, .int .i64 0, .int .i64 0, .string .empty, .string .empty, .int .i64 0, .int .i64 0, .slice none 0 0] 0 cr = cr := putAt_all hk
  rw [hpu] at H4
  refine ops_val (ex_assign rfl) ?_
  refine ops_nil ?_
  change Run _ _ _ _ [_, _, _, _, _, _, _, _, _, _, _, _, _, _, _, _, _, _, _, _, _, _, _, _, _, _, _, _, _, _, _, _, _, _, _, _, _, _, _, _, _, _, _, _, _, _, _, _, _, _, _, _, _, _, _, _, _, _, _, _, _, _, _, _, _, _, _, _, _, _, _, _, _, _, _, _, _, _, _, _, _, _, _, _, _, _, _, _, _, _, _, _, _, _, _, _, _] _
  refine run_seq ?_
  refine run_seq ?_
  refine run_region ?_
  refine ops_val (ex_move rfl) ?_
  refine ops_test (ex_eql rfl rfl) (fun hp24 => ?_) (fun hp24 => ?_)
  · have he : errR thcommand b = 0 := by omega
    have hone := one_got one_command he
    refine ops_nil ?_
    change Run _ _ _ _ [_, _, _, _, _, _, _, _, _, _, _, _, _, _, _, _, _, _, _, _, _, _, _, _, _, _, _, _, _, _, _, _, _, _, _, _, _, _, _, _, _, _, _, _, _, _, _, _, _, _, _, _, _, _, _, _, _, _, _, _, _, _, _, _, _, _, _, _, _, _, _, _, _, _, _, _, _, _, _, _, _, _, _, _, _, _, _, _, _, _, _, _, _, _, _, _, _] _
    refine run_cond_true rfl ?_
    refine run_seq ?_
    refine run_region ?_
    refine ops_val (ex_loadN ty28 rfl (vs := cr) hk (H4.cells (i := 0) rfl)) ?_
    have hwk := command_wr (gotR thcommand b) cr _ (thcommand.mono (thcommand.to hR H4 (fun _ _ => by simp)) (fun _ _ => trivial))
    rw [hone] at hwk
    refine ops_call_wr (ex_call gf10 rfl) hwk ?_
    intro w5 ga ca sa qa qb qc qd Hd
    have H5 := H4.call0 Hd
    refine ops_val (ex_move rfl) ?_
    refine ops_val (ex_extract rfl rfl) ?_
    change Ops _ _ _ _ _ _ [_, _, _, _, _, _, _, _, _, _, _, _, _, _, _, _, _, _, _, _, _, _, _, _, _, _, _, _, _, _, _, _, _, _, _, _, _, _, _, _, _, _, _, _, _, _, _, _, _, _, _, _, _, _, _, _, _, _, _, _, _, _, _, _, _, _, _, _, _, _, _, _, _, _, _, _, _, _, _, _, _, _, _, _, _, _, _, _, _, _, _, _, _, _, _, _, _] _
    refine ops_val (ex_extract rfl rfl) ?_
    refine ops_val (ex_assign rfl) ?_
    refine ops_val (ex_assign rfl) ?_
    refine ops_nil ?_
    change Run _ _ _ _ [_, _, _, _, _, _, _, _, _, _, _, _, _, _, _, _, _, _, _, _, _, _, _, _, _, _, _, _, _, _, _, _, _, _, _, _, _, _, _, _, _, _, _, _, _, _, _, _, _, _, _, _, _, _, _, _, _, _, _, _, _, _, _, _, _, _, _, _, _, _, _, _, _, _, _, _, _, _, _, _, _, _, _, _, _, _, _, _, _, _, _, _, _, _, _, _, _] _
    refine run_seq ?_
    refine run_region ?_
    refine ops_val (ex_move rfl) ?_
    refine ops_false (ex_neq rfl rfl) (by simp [errOf]) ?_
    refine ops_val (ex_move rfl) ?_
    change Ops _ _ _ _ _ _ [_, _, _, _, _, _, _, _, _, _, _, _, _, _, _, _, _, _, _, _, _, _, _, _, _, _, _, _, _, _, _, _, _, _, _, _, _, _, _, _, _, _, _, _, _, _, _, _, _, _, _, _, _, _, _, _, _, _, _, _, _, _, _, _, _, _, _, _, _, _, _, _, _, _, _, _, _, _, _, _, _, _, _, _, _, _, _, _, _, _, _, _, _, _, _, _, _] _
    refine ops_yes rfl ?_
    refine ops_val (ex_move rfl) ?_
    refine ops_yes rfl ?_
    refine ops_val (ex_move rfl) ?_
    change Ops _ _ _ _ _ _ [_, _, _, _, _, _, _, _, _, _, _, _, _, _, _, _, _, _, _, _, _, _, _, _, _, _, _, _, _, _, _, _, _, _, _, _, _, _, _, _, _, _, _, _, _, _, _, _, _, _, _, _, _, _, _, _, _, _, _, _, _, _, _, _, _, _, _, _, _, _, _, _, _, _, _, _, _, _, _, _, _, _, _, _, _, _, _, _, _, _, _, _, _, _, _, _, _] _
    refine ops_yes rfl ?_
    have hk2 := bytes_any (hd ga) AA b b ca c _ (H5.rd (i := 1) (o := ga) (xs := u8s b) (sp := sa) rfl (u8s_length1 _) (by decide)) (((hr.to0 HA).to0 H5)) (by omega) (by omega)
    rw [decide_eq_true rfl] at hk2
    refine ops_call_val (ex_call gf16 rfl) hk2 ?_
    intro w6 Hd
    have H6 := H5.call0 Hd
    refine ops_yes rfl ?_
    refine ops_val (ex_not rfl) ?_
    refine ops_val (ex_pick_f rfl rfl) ?_
    refine ops_nil ?_
    change Run _ _ _ _ [_, _, _, _, _, _, _, _, _, _, _, _, _, _, _, _, _, _, _, _, _, _, _, _, _, _, _, _, _, _, _, _, _, _, _, _, _, _, _, _, _, _, _, _, _, _, _, _, _, _, _, _, _, _, _, _, _, _, _, _, _, _, _, _, _, _, _, _, _, _, _, _, _, _, _, _, _, _, _, _, _, _, _, _, _, _, _, _, _, _, _, _, _, _, _, _, _] _
    refine run_cond_false rfl ?_
    refine run_skip ?_
    refine run_seq ?_
    refine run_region ?_
    refine ops_val (ex_move rfl) ?_
    replace HA := HA.call0 (H6.pick [] (by decide))
    refine ops_call_rd (ex_call gf36 rfl) (state_rd AA b c _ (hr.to0 HA) (by omega)) ?_
    intro w7 cr hR Hd
    replace HA := HA.call0 Hd
    have H7 := Hp.refl w7
    refine ops_val (ex_move rfl) ?_
    refine ops_val (ex_extract rfl rfl) ?_
    change Ops _ _ _ _ _ _ [_, _, _, _, _, _, _, _, _, _, _, _, _, _, _, _, _, _, _, _, _, _, _, _, _, _, _, _, _, _, _, _, _, _, _, _, _, _, _, _, _, _, _, _, _, _, _, _, _, _, _, _, _, _, _, _, _, _, _, _, _, _, _, _, _, _, _, _, _, _, _, _, _, _, _, _, _, _, _, _, _, _, _, _, _, _, _, _, _, _, _, _, _, _, _, _, _] _
    refine ops_val (ex_extract rfl rfl) ?_
    refine ops_alloc ty89 H7 ?_
    intro w8 gk H8 hgk
    have hk : cr.length = 29 := thstate.len hR
    refine ops_store ty89 H8 0 rfl rfl rfl rfl hk (by rw [hk]; decide) (thstate.ones hR) ?_
    intro w9 H9
    have hpu : putAt [.int .i64 0, .int .i64 0, .bool false, .string .empty, .string .empty, .int .i64 0, .slice none 0 0, .slice none 0 0, .slice none 0 0, .slice none 0 0, .slice none 0 0, .int .i64 0, .int .i64 0, .int .i64 0, .string .empty, .string .empty, .int .i64 0, .int .i64 0, .int .i64 0, .int .i64 0, .int .i64 0, .string .empty, .string .empty, .int .i64 0, .int .i64 0, .slice none 0 0, .int .i64 0, .int .i64 0, .int .i64 0] 0 cr = cr := putAt_all hk
    rw [hpu] at H9
    refine ops_val (ex_assign rfl) ?_
    refine ops_nil ?_
    change Run _ _ _ _ [_, _, _, _, _, _, _, _, _, _, _, _, _, _, _, _, _, _, _, _, _, _, _, _, _, _, _, _, _, _, _, _, _, _, _, _, _, _, _, _, _, _, _, _, _, _, _, _, _, _, _, _, _, _, _, _, _, _, _, _, _, _, _, _, _, _, _, _, _, _, _, _, _, _, _, _, _, _, _, _, _, _, _, _, _, _, _, _, _, _, _, _, _, _, _, _, _] _
    refine run_seq ?_
    refine run_seq ?_
    refine run_region ?_
    refine ops_val (ex_move rfl) ?_
    refine ops_test (ex_eql rfl rfl) (fun hp44 => ?_) (fun hp44 => ?_)
    · have he : errR thstate b = 0 := by omega
      have hone := one_got one_state he
      refine ops_nil ?_
      change Run _ _ _ _ [_, _, _, _, _, _, _, _, _, _, _, _, _, _, _, _, _, _, _, _, _, _, _, _, _, _, _, _, _, _, _, _, _, _, _, _, _, _, _, _, _, _, _, _, _, _, _, _, _, _, _, _, _, _, _, _, _, _, _, _, _, _, _, _, _, _, _, _, _, _, _, _, _, _, _, _, _, _, _, _, _, _, _, _, _, _, _, _, _, _, _, _, _, _, _, _, _] _
      refine run_cond_true rfl ?_
      refine run_seq ?_
      refine run_region ?_
      refine ops_val (ex_loadN ty89 rfl (vs := cr) hk (H9.cells (i := 0) rfl)) ?_
      have hwk := state_wr (gotR thstate b) cr _ (thstate.mono (thstate.to hR H9 (fun _ _ => by simp)) (fun _ _ => trivial))
      rw [hone] at hwk
      refine ops_call_wr (ex_call gf37 rfl) hwk ?_
      intro w10 ga ca sa qa qb qc qd Hd
      have H10 := H9.call0 Hd
      refine ops_val (ex_move rfl) ?_
      refine ops_val (ex_extract rfl rfl) ?_
      change Ops _ _ _ _ _ _ [_, _, _, _, _, _, _, _, _, _, _, _, _, _, _, _, _, _, _, _, _, _, _, _, _, _, _, _, _, _, _, _, _, _, _, _, _, _, _, _, _, _, _, _, _, _, _, _, _, _, _, _, _, _, _, _, _, _, _, _, _, _, _, _, _, _, _, _, _, _, _, _, _, _, _, _, _, _, _, _, _, _, _, _, _, _, _, _, _, _, _, _, _, _, _, _, _] _
      refine ops_val (ex_extract rfl rfl) ?_
      refine ops_val (ex_assign rfl) ?_
      refine ops_val (ex_assign rfl) ?_
      refine ops_nil ?_
      change Run _ _ _ _ [_, _, _, _, _, _, _, _, _, _, _, _, _, _, _, _, _, _, _, _, _, _, _, _, _, _, _, _, _, _, _, _, _, _, _, _, _, _, _, _, _, _, _, _, _, _, _, _, _, _, _, _, _, _, _, _, _, _, _, _, _, _, _, _, _, _, _, _, _, _, _, _, _, _, _, _, _, _, _, _, _, _, _, _, _, _, _, _, _, _, _, _, _, _, _, _, _] _
      refine run_seq ?_
      refine run_region ?_
      refine ops_val (ex_move rfl) ?_
      refine ops_false (ex_neq rfl rfl) (by simp [errOf]) ?_
      refine ops_val (ex_move rfl) ?_
      change Ops _ _ _ _ _ _ [_, _, _, _, _, _, _, _, _, _, _, _, _, _, _, _, _, _, _, _, _, _, _, _, _, _, _, _, _, _, _, _, _, _, _, _, _, _, _, _, _, _, _, _, _, _, _, _, _, _, _, _, _, _, _, _, _, _, _, _, _, _, _, _, _, _, _, _, _, _, _, _, _, _, _, _, _, _, _, _, _, _, _, _, _, _, _, _, _, _, _, _, _, _, _, _, _] _
      refine ops_yes rfl ?_
      refine ops_val (ex_move rfl) ?_
      refine ops_yes rfl ?_
      refine ops_val (ex_move rfl) ?_
      change Ops _ _ _ _ _ _ [_, _, _, _, _, _, _, _, _, _, _, _, _, _, _, _, _, _, _, _, _, _, _, _, _, _, _, _, _, _, _, _, _, _, _, _, _, _, _, _, _, _, _, _, _, _, _, _, _, _, _, _, _, _, _, _, _, _, _, _, _, _, _, _, _, _, _, _, _, _, _, _, _, _, _, _, _, _, _, _, _, _, _, _, _, _, _, _, _, _, _, _, _, _, _, _, _] _
      refine ops_yes rfl ?_
      have hk2 := bytes_any (hd ga) AA b b ca c _ (H10.rd (i := 1) (o := ga) (xs := u8s b) (sp := sa) rfl (u8s_length1 _) (by decide)) (((hr.to0 HA).to0 H10)) (by omega) (by omega)
      rw [decide_eq_true rfl] at hk2
      refine ops_call_val (ex_call gf16 rfl) hk2 ?_
      intro w11 Hd
      have H11 := H10.call0 Hd
      refine ops_yes rfl ?_
      refine ops_val (ex_not rfl) ?_
      refine ops_val (ex_pick_f rfl rfl) ?_
      refine ops_nil ?_
      change Run _ _ _ _ [_, _, _, _, _, _, _, _, _, _, _, _, _, _, _, _, _, _, _, _, _, _, _, _, _, _, _, _, _, _, _, _, _, _, _, _, _, _, _, _, _, _, _, _, _, _, _, _, _, _, _, _, _, _, _, _, _, _, _, _, _, _, _, _, _, _, _, _, _, _, _, _, _, _, _, _, _, _, _, _, _, _, _, _, _, _, _, _, _, _, _, _, _, _, _, _, _] _
      refine run_cond_false rfl ?_
      refine run_skip ?_
      refine run_seq ?_
      refine run_region ?_
      refine ops_val (ex_move rfl) ?_
      replace HA := HA.call0 (H11.pick [] (by decide))
      refine ops_call_rd (ex_call gf22 rfl) (note_rd AA b c _ (hr.to0 HA) (by omega)) ?_
      intro w12 cr hR Hd
      replace HA := HA.call0 Hd
      have H12 := Hp.refl w12
      refine ops_val (ex_move rfl) ?_
      refine ops_val (ex_extract rfl rfl) ?_
      change Ops _ _ _ _ _ _ [_, _, _, _, _, _, _, _, _, _, _, _, _, _, _, _, _, _, _, _, _, _, _, _, _, _, _, _, _, _, _, _, _, _, _, _, _, _, _, _, _, _, _, _, _, _, _, _, _, _, _, _, _, _, _, _, _, _, _, _, _, _, _, _, _, _, _, _, _, _, _, _, _, _, _, _, _, _, _, _, _, _, _, _, _, _, _, _, _, _, _, _, _, _, _, _, _] _
      refine ops_val (ex_extract rfl rfl) ?_
      refine ops_alloc ty50 H12 ?_
      intro w13 gk H13 hgk
      have hk : cr.length = 16 := thnote.len hR
      refine ops_store ty50 H13 0 rfl rfl rfl rfl hk (by rw [hk]; decide) (thnote.ones hR) ?_
      intro w14 H14
      have hpu : putAt [.int .i64 0, .int .i64 0, .int .i64 0, .int .i64 0, .int .i64 0, .int .i64 0, .int .i64 0, .slice none 0 0, .int .i64 0, .slice none 0 0, .int .i64 0, .string .empty, .int .i64 0, .int .i64 0, .int .i64 0, .int .i64 0] 0 cr = cr := putAt_all hk
      rw [hpu] at H14
      refine ops_val (ex_assign rfl) ?_
      refine ops_nil ?_
      change Run _ _ _ _ [_, _, _, _, _, _, _, _, _, _, _, _, _, _, _, _, _, _, _, _, _, _, _, _, _, _, _, _, _, _, _, _, _, _, _, _, _, _, _, _, _, _, _, _, _, _, _, _, _, _, _, _, _, _, _, _, _, _, _, _, _, _, _, _, _, _, _, _, _, _, _, _, _, _, _, _, _, _, _, _, _, _, _, _, _, _, _, _, _, _, _, _, _, _, _, _, _] _
      refine run_seq ?_
      refine run_seq ?_
      refine run_region ?_
      refine ops_val (ex_move rfl) ?_
      refine ops_test (ex_eql rfl rfl) (fun hp64 => ?_) (fun hp64 => ?_)
      · have he : errR thnote b = 0 := by omega
        have hone := one_got one_note he
        refine ops_nil ?_
        change Run _ _ _ _ [_, _, _, _, _, _, _, _, _, _, _, _, _, _, _, _, _, _, _, _, _, _, _, _, _, _, _, _, _, _, _, _, _, _, _, _, _, _, _, _, _, _, _, _, _, _, _, _, _, _, _, _, _, _, _, _, _, _, _, _, _, _, _, _, _, _, _, _, _, _, _, _, _, _, _, _, _, _, _, _, _, _, _, _, _, _, _, _, _, _, _, _, _, _, _, _, _] _
        refine run_cond_true rfl ?_
        refine run_seq ?_
        refine run_region ?_
        refine ops_val (ex_loadN ty50 rfl (vs := cr) hk (H14.cells (i := 0) rfl)) ?_
        have hwk := note_wr (gotR thnote b) cr _ (thnote.mono (thnote.to hR H14 (fun _ _ => by simp)) (fun _ _ => trivial))
        rw [hone] at hwk
        refine ops_call_wr (ex_call gf20 rfl) hwk ?_
        intro w15 ga ca sa qa qb qc qd Hd
        have H15 := H14.call0 Hd
        refine ops_val (ex_move rfl) ?_
        refine ops_val (ex_extract rfl rfl) ?_
        change Ops _ _ _ _ _ _ [_, _, _, _, _, _, _, _, _, _, _, _, _, _, _, _, _, _, _, _, _, _, _, _, _, _, _, _, _, _, _, _, _, _, _, _, _, _, _, _, _, _, _, _, _, _, _, _, _, _, _, _, _, _, _, _, _, _, _, _, _, _, _, _, _, _, _, _, _, _, _, _, _, _, _, _, _, _, _, _, _, _, _, _, _, _, _, _, _, _, _, _, _, _, _, _, _] _
        refine ops_val (ex_extract rfl rfl) ?_
        refine ops_val (ex_assign rfl) ?_
        refine ops_val (ex_assign rfl) ?_
        refine ops_nil ?_
        change Run _ _ _ _ [_, _, _, _, _, _, _, _, _, _, _, _, _, _, _, _, _, _, _, _, _, _, _, _, _, _, _, _, _, _, _, _, _, _, _, _, _, _, _, _, _, _, _, _, _, _, _, _, _, _, _, _, _, _, _, _, _, _, _, _, _, _, _, _, _, _, _, _, _, _, _, _, _, _, _, _, _, _, _, _, _, _, _, _, _, _, _, _, _, _, _, _, _, _, _, _, _] _
        refine run_seq ?_
        refine run_region ?_
        refine ops_val (ex_move rfl) ?_
        refine ops_false (ex_neq rfl rfl) (by simp [errOf]) ?_
        refine ops_val (ex_move rfl) ?_
        change Ops _ _ _ _ _ _ [_, _, _, _, _, _, _, _, _, _, _, _, _, _, _, _, _, _, _, _, _, _, _, _, _, _, _, _, _, _, _, _, _, _, _, _, _, _, _, _, _, _, _, _, _, _, _, _, _, _, _, _, _, _, _, _, _, _, _, _, _, _, _, _, _, _, _, _, _, _, _, _, _, _, _, _, _, _, _, _, _, _, _, _, _, _, _, _, _, _, _, _, _, _, _, _, _] _
        refine ops_yes rfl ?_
        refine ops_val (ex_move rfl) ?_
        refine ops_yes rfl ?_
        refine ops_val (ex_move rfl) ?_
        change Ops _ _ _ _ _ _ [_, _, _, _, _, _, _, _, _, _, _, _, _, _, _, _, _, _, _, _, _, _, _, _, _, _, _, _, _, _, _, _, _, _, _, _, _, _, _, _, _, _, _, _, _, _, _, _, _, _, _, _, _, _, _, _, _, _, _, _, _, _, _, _, _, _, _, _, _, _, _, _, _, _, _, _, _, _, _, _, _, _, _, _, _, _, _, _, _, _, _, _, _, _, _, _, _] _
        refine ops_yes rfl ?_
        have hk2 := bytes_any (hd ga) AA b b ca c _ (H15.rd (i := 1) (o := ga) (xs := u8s b) (sp := sa) rfl (u8s_length1 _) (by decide)) (((hr.to0 HA).to0 H15)) (by omega) (by omega)
        rw [decide_eq_true rfl] at hk2
        refine ops_call_val (ex_call gf16 rfl) hk2 ?_
        intro w16 Hd
        have H16 := H15.call0 Hd
        refine ops_yes rfl ?_
        refine ops_val (ex_not rfl) ?_
        refine ops_val (ex_pick_f rfl rfl) ?_
        refine ops_nil ?_
        change Run _ _ _ _ [_, _, _, _, _, _, _, _, _, _, _, _, _, _, _, _, _, _, _, _, _, _, _, _, _, _, _, _, _, _, _, _, _, _, _, _, _, _, _, _, _, _, _, _, _, _, _, _, _, _, _, _, _, _, _, _, _, _, _, _, _, _, _, _, _, _, _, _, _, _, _, _, _, _, _, _, _, _, _, _, _, _, _, _, _, _, _, _, _, _, _, _, _, _, _, _, _] _
        refine run_cond_false rfl ?_
        refine run_skip ?_
        refine run_seq ?_
        refine run_region ?_
        refine ops_val (ex_move rfl) ?_
        replace HA := HA.call0 (H16.pick [] (by decide))
        refine ops_call_rd (ex_call gf28 rfl) (chart_rd AA b c _ (hr.to0 HA) (by omega)) ?_
        intro w17 cr hR Hd
        replace HA := HA.call0 Hd
        have H17 := Hp.refl w17
        refine ops_val (ex_move rfl) ?_
        refine ops_val (ex_extract rfl rfl) ?_
        change Ops _ _ _ _ _ _ [_, _, _, _, _, _, _, _, _, _, _, _, _, _, _, _, _, _, _, _, _, _, _, _, _, _, _, _, _, _, _, _, _, _, _, _, _, _, _, _, _, _, _, _, _, _, _, _, _, _, _, _, _, _, _, _, _, _, _, _, _, _, _, _, _, _, _, _, _, _, _, _, _, _, _, _, _, _, _, _, _, _, _, _, _, _, _, _, _, _, _, _, _, _, _, _, _] _
        refine ops_val (ex_extract rfl rfl) ?_
        refine ops_alloc ty59 H17 ?_
        intro w18 gk H18 hgk
        have hk : cr.length = 12 := thchart.len hR
        refine ops_store ty59 H18 0 rfl rfl rfl rfl hk (by rw [hk]; decide) (thchart.ones hR) ?_
        intro w19 H19
        have hpu : putAt [.int .i64 0, .slice none 0 0, .int .i64 0, .int .i64 0, .int .i64 0, .int .i64 0, .int .i64 0, .string .empty, .string .empty, .int .i64 0, .int .i64 0, .slice none 0 0] 0 cr = cr := putAt_all hk
        rw [hpu] at H19
        refine ops_val (ex_assign rfl) ?_
        refine ops_nil ?_
        change Run _ _ _ _ [_, _, _, _, _, _, _, _, _, _, _, _, _, _, _, _, _, _, _, _, _, _, _, _, _, _, _, _, _, _, _, _, _, _, _, _, _, _, _, _, _, _, _, _, _, _, _, _, _, _, _, _, _, _, _, _, _, _, _, _, _, _, _, _, _, _, _, _, _, _, _, _, _, _, _, _, _, _, _, _, _, _, _, _, _, _, _, _, _, _, _, _, _, _, _, _, _] _
        refine run_seq ?_
        refine run_seq ?_
        refine run_region ?_
        refine ops_val (ex_move rfl) ?_
        refine ops_test (ex_eql rfl rfl) (fun hp84 => ?_) (fun hp84 => ?_)
        · have he : errR thchart b = 0 := by omega
          have hone := one_got one_chart he
          refine ops_nil ?_
          change Run _ _ _ _ [_, _, _, _, _, _, _, _, _, _, _, _, _, _, _, _, _, _, _, _, _, _, _, _, _, _, _, _, _, _, _, _, _, _, _, _, _, _, _, _, _, _, _, _, _, _, _, _, _, _, _, _, _, _, _, _, _, _, _, _, _, _, _, _, _, _, _, _, _, _, _, _, _, _, _, _, _, _, _, _, _, _, _, _, _, _, _, _, _, _, _, _, _, _, _, _, _] _
          refine run_cond_true rfl ?_
          refine run_seq ?_
          refine run_region ?_
          refine ops_val (ex_loadN ty59 rfl (vs := cr) hk (H19.cells (i := 0) rfl)) ?_
          have hwk := chart_wr (gotR thchart b) cr _ (thchart.mono (thchart.to hR H19 (fun _ _ => by simp)) (fun _ _ => trivial))
          rw [hone] at hwk
          refine ops_call_wr (ex_call gf25 rfl) hwk ?_
          intro w20 ga ca sa qa qb qc qd Hd
          have H20 := H19.call0 Hd
          refine ops_val (ex_move rfl) ?_
          refine ops_val (ex_extract rfl rfl) ?_
          change Ops _ _ _ _ _ _ [_, _, _, _, _, _, _, _, _, _, _, _, _, _, _, _, _, _, _, _, _, _, _, _, _, _, _, _, _, _, _, _, _, _, _, _, _, _, _, _, _, _, _, _, _, _, _, _, _, _, _, _, _, _, _, _, _, _, _, _, _, _, _, _, _, _, _, _, _, _, _, _, _, _, _, _, _, _, _, _, _, _, _, _, _, _, _, _, _, _, _, _, _, _, _, _, _] _
          refine ops_val (ex_extract rfl rfl) ?_
          refine ops_val (ex_assign rfl) ?_
          refine ops_val (ex_assign rfl) ?_
          refine ops_nil ?_
          change Run _ _ _ _ [_, _, _, _, _, _, _, _, _, _, _, _, _, _, _, _, _, _, _, _, _, _, _, _, _, _, _, _, _, _, _, _, _, _, _, _, _, _, _, _, _, _, _, _, _, _, _, _, _, _, _, _, _, _, _, _, _, _, _, _, _, _, _, _, _, _, _, _, _, _, _, _, _, _, _, _, _, _, _, _, _, _, _, _, _, _, _, _, _, _, _, _, _, _, _, _, _] _
          refine run_seq ?_
          refine run_region ?_
          refine ops_val (ex_move rfl) ?_
          refine ops_true (ex_eql rfl rfl) (rfl) ?_
          refine ops_val (ex_move rfl) ?_
          change Ops _ _ _ _ _ _ [_, _, _, _, _, _, _, _, _, _, _, _, _, _, _, _, _, _, _, _, _, _, _, _, _, _, _, _, _, _, _, _, _, _, _, _, _, _, _, _, _, _, _, _, _, _, _, _, _, _, _, _, _, _, _, _, _, _, _, _, _, _, _, _, _, _, _, _, _, _, _, _, _, _, _, _, _, _, _, _, _, _, _, _, _, _, _, _, _, _, _, _, _, _, _, _, _] _
          refine ops_yes rfl ?_
          refine ops_val (ex_move rfl) ?_
          refine ops_yes rfl ?_
          refine ops_val (ex_move rfl) ?_
          change Ops _ _ _ _ _ _ [_, _, _, _, _, _, _, _, _, _, _, _, _, _, _, _, _, _, _, _, _, _, _, _, _, _, _, _, _, _, _, _, _, _, _, _, _, _, _, _, _, _, _, _, _, _, _, _, _, _, _, _, _, _, _, _, _, _, _, _, _, _, _, _, _, _, _, _, _, _, _, _, _, _, _, _, _, _, _, _, _, _, _, _, _, _, _, _, _, _, _, _, _, _, _, _, _] _
          refine ops_yes rfl ?_
          have hk2 := bytes_any (hd ga) AA b b ca c _ (H20.rd (i := 1) (o := ga) (xs := u8s b) (sp := sa) rfl (u8s_length1 _) (by decide)) (((hr.to0 HA).to0 H20)) (by omega) (by omega)
          rw [decide_eq_true rfl] at hk2
          refine ops_call_val (ex_call gf16 rfl) hk2 ?_
          intro w21 Hd
          have H21 := H20.call0 Hd
          refine ops_val (ex_pick_t rfl rfl) ?_
          refine ops_val (ex_assign rfl) ?_
          refine ops_nil ?_
          change Run _ _ _ _ [_, _, _, _, _, _, _, _, _, _, _, _, _, _, _, _, _, _, _, _, _, _, _, _, _, _, _, _, _, _, _, _, _, _, _, _, _, _, _, _, _, _, _, _, _, _, _, _, _, _, _, _, _, _, _, _, _, _, _, _, _, _, _, _, _, _, _, _, _, _, _, _, _, _, _, _, _, _, _, _, _, _, _, _, _, _, _, _, _, _, _, _, _, _, _, _, _] _
          refine run_ret ?_
          refine fin_ret1 rfl rfl ?_
          exact ⟨rfl, HA.call0 (H21.pick [] (by decide))⟩
        · skip
          refine ops_nil ?_
          change Run _ _ _ _ [_, _, _, _, _, _, _, _, _, _, _, _, _, _, _, _, _, _, _, _, _, _, _, _, _, _, _, _, _, _, _, _, _, _, _, _, _, _, _, _, _, _, _, _, _, _, _, _, _, _, _, _, _, _, _, _, _, _, _, _, _, _, _, _, _, _, _, _, _, _, _, _, _, _, _, _, _, _, _, _, _, _, _, _, _, _, _, _, _, _, _, _, _, _, _, _, _] _
          refine run_cond_false rfl ?_
          refine run_skip ?_
          refine run_seq ?_
          refine run_region ?_
          refine ops_val (ex_assign rfl) ?_
          refine ops_nil ?_
          change Run _ _ _ _ [_, _, _, _, _, _, _, _, _, _, _, _, _, _, _, _, _, _, _, _, _, _, _, _, _, _, _, _, _, _, _, _, _, _, _, _, _, _, _, _, _, _, _, _, _, _, _, _, _, _, _, _, _, _, _, _, _, _, _, _, _, _, _, _, _, _, _, _, _, _, _, _, _, _, _, _, _, _, _, _, _, _, _, _, _, _, _, _, _, _, _, _, _, _, _, _, _] _
          refine run_ret ?_
          refine fin_ret1 rfl rfl ?_
          exact ⟨rfl, HA.call0 (H19.pick [] (by decide))⟩
      · skip
        refine ops_nil ?_
        change Run _ _ _ _ [_, _, _, _, _, _, _, _, _, _, _, _, _, _, _, _, _, _, _, _, _, _, _, _, _, _, _, _, _, _, _, _, _, _, _, _, _, _, _, _, _, _, _, _, _, _, _, _, _, _, _, _, _, _, _, _, _, _, _, _, _, _, _, _, _, _, _, _, _, _, _, _, _, _, _, _, _, _, _, _, _, _, _, _, _, _, _, _, _, _, _, _, _, _, _, _, _] _
        refine run_cond_false rfl ?_
        refine run_skip ?_
        refine run_seq ?_
        refine run_region ?_
        refine ops_val (ex_move rfl) ?_
        replace HA := HA.call0 (H14.pick [] (by decide))
        refine ops_call_rd (ex_call gf28 rfl) (chart_rd AA b c _ (hr.to0 HA) (by omega)) ?_
        intro w15 cr hR Hd
        replace HA := HA.call0 Hd
        have H15 := Hp.refl w15
        refine ops_val (ex_move rfl) ?_
        refine ops_val (ex_extract rfl rfl) ?_
        change Ops _ _ _ _ _ _ [_, _, _, _, _, _, _, _, _, _, _, _, _, _, _, _, _, _, _, _, _, _, _, _, _, _, _, _, _, _, _, _, _, _, _, _, _, _, _, _, _, _, _, _, _, _, _, _, _, _, _, _, _, _, _, _, _, _, _, _, _, _, _, _, _, _, _, _, _, _, _, _, _, _, _, _, _, _, _, _, _, _, _, _, _, _, _, _, _, _, _, _, _, _, _, _, _] _
        refine ops_val (ex_extract rfl rfl) ?_
        refine ops_alloc ty59 H15 ?_
        intro w16 gk H16 hgk
        have hk : cr.length = 12 := thchart.len hR
        refine ops_store ty59 H16 0 rfl rfl rfl rfl hk (by rw [hk]; decide) (thchart.ones hR) ?_
        intro w17 H17
        have hpu : putAt [.int .i64 0, .slice none 0 0, .int .i64 0, .int .i64 0, .int .i64 0, .int .i64 0, .int .i64 0, .string .empty, .string .empty, .int .i64 0, .int .i64 0, .slice none 0 0] 0 cr = cr := putAt_all hk
        rw [hpu] at H17
        refine ops_val (ex_assign rfl) ?_
        refine ops_nil ?_
        change Run _ _ _ _ [_, _, _, _, _, _, _, _, _, _, _, _, _, _, _, _, _, _, _, _, _, _, _, _, _, _, _, _, _, _, _, _, _, _, _, _, _, _, _, _, _, _, _, _, _, _, _, _, _, _, _, _, _, _, _, _, _, _, _, _, _, _, _, _, _, _, _, _, _, _, _, _, _, _, _, _, _, _, _, _, _, _, _, _, _, _, _, _, _, _, _, _, _, _, _, _, _] _
        refine run_seq ?_
        refine run_seq ?_
        refine run_region ?_
        refine ops_val (ex_move rfl) ?_
        refine ops_test (ex_eql rfl rfl) (fun hp84 => ?_) (fun hp84 => ?_)
        · have he : errR thchart b = 0 := by omega
          have hone := one_got one_chart he
          refine ops_nil ?_
          change Run _ _ _ _ [_, _, _, _, _, _, _, _, _, _, _, _, _, _, _, _, _, _, _, _, _, _, _, _, _, _, _, _, _, _, _, _, _, _, _, _, _, _, _, _, _, _, _, _, _, _, _, _, _, _, _, _, _, _, _, _, _, _, _, _, _, _, _, _, _, _, _, _, _, _, _, _, _, _, _, _, _, _, _, _, _, _, _, _, _, _, _, _, _, _, _, _, _, _, _, _, _] _
          refine run_cond_true rfl ?_
          refine run_seq ?_
          refine run_region ?_
          refine ops_val (ex_loadN ty59 rfl (vs := cr) hk (H17.cells (i := 0) rfl)) ?_
          have hwk := chart_wr (gotR thchart b) cr _ (thchart.mono (thchart.to hR H17 (fun _ _ => by simp)) (fun _ _ => trivial))
          rw [hone] at hwk
          refine ops_call_wr (ex_call gf25 rfl) hwk ?_
          intro w18 ga ca sa qa qb qc qd Hd
          have H18 := H17.call0 Hd
          refine ops_val (ex_move rfl) ?_
          refine ops_val (ex_extract rfl rfl) ?_
          change Ops _ _ _ _ _ _ [_, _, _, _, _, _, _, _, _, _, _, _, _, _, _, _, _, _, _, _, _, _, _, _, _, _, _, _, _, _, _, _, _, _, _, _, _, _, _, _, _, _, _, _, _, _, _, _, _, _, _, _, _, _, _, _, _, _, _, _, _, _, _, _, _, _, _, _, _, _, _, _, _, _, _, _, _, _, _, _, _, _, _, _, _, _, _, _, _, _, _, _, _, _, _, _, _] _
          refine ops_val (ex_extract rfl rfl) ?_
          refine ops_val (ex_assign rfl) ?_
          refine ops_val (ex_assign rfl) ?_
          refine ops_nil ?_
          change Run _ _ _ _ [_, _, _, _, _, _, _, _, _, _, _, _, _, _, _, _, _, _, _, _, _, _, _, _, _, _, _, _, _, _, _, _, _, _, _, _, _, _, _, _, _, _, _, _, _, _, _, _, _, _, _, _, _, _, _, _, _, _, _, _, _, _, _, _, _, _, _, _, _, _, _, _, _, _, _, _, _, _, _, _, _, _, _, _, _, _, _, _, _, _, _, _, _, _, _, _, _] _
          refine run_seq ?_
          refine run_region ?_
          refine ops_val (ex_move rfl) ?_
          refine ops_true (ex_eql rfl rfl) (rfl) ?_
          refine ops_val (ex_move rfl) ?_
          change Ops _ _ _ _ _ _ [_, _, _, _, _, _, _, _, _, _, _, _, _, _, _, _, _, _, _, _, _, _, _, _, _, _, _, _, _, _, _, _, _, _, _, _, _, _, _, _, _, _, _, _, _, _, _, _, _, _, _, _, _, _, _, _, _, _, _, _, _, _, _, _, _, _, _, _, _, _, _, _, _, _, _, _, _, _, _, _, _, _, _, _, _, _, _, _, _, _, _, _, _, _, _, _, _] _
          refine ops_yes rfl ?_
          refine ops_val (ex_move rfl) ?_
          refine ops_yes rfl ?_
          refine ops_val (ex_move rfl) ?_
          change Ops _ _ _ _ _ _ [_, _, _, _, _, _, _, _, _, _, _, _, _, _, _, _, _, _, _, _, _, _, _, _, _, _, _, _, _, _, _, _, _, _, _, _, _, _, _, _, _, _, _, _, _, _, _, _, _, _, _, _, _, _, _, _, _, _, _, _, _, _, _, _, _, _, _, _, _, _, _, _, _, _, _, _, _, _, _, _, _, _, _, _, _, _, _, _, _, _, _, _, _, _, _, _, _] _
          refine ops_yes rfl ?_
          have hk2 := bytes_any (hd ga) AA b b ca c _ (H18.rd (i := 1) (o := ga) (xs := u8s b) (sp := sa) rfl (u8s_length1 _) (by decide)) (((hr.to0 HA).to0 H18)) (by omega) (by omega)
          rw [decide_eq_true rfl] at hk2
          refine ops_call_val (ex_call gf16 rfl) hk2 ?_
          intro w19 Hd
          have H19 := H18.call0 Hd
          refine ops_val (ex_pick_t rfl rfl) ?_
          refine ops_val (ex_assign rfl) ?_
          refine ops_nil ?_
          change Run _ _ _ _ [_, _, _, _, _, _, _, _, _, _, _, _, _, _, _, _, _, _, _, _, _, _, _, _, _, _, _, _, _, _, _, _, _, _, _, _, _, _, _, _, _, _, _, _, _, _, _, _, _, _, _, _, _, _, _, _, _, _, _, _, _, _, _, _, _, _, _, _, _, _, _, _, _, _, _, _, _, _, _, _, _, _, _, _, _, _, _, _, _, _, _, _, _, _, _, _, _] _
          refine run_ret ?_
          refine fin_ret1 rfl rfl ?_
          exact ⟨rfl, HA.call0 (H19.pick [] (by decide))⟩
        · skip
          refine ops_nil ?_
          change Run _ _ _ _ [_, _, _, _, _, _, _, _, _, _, _, _, _, _, _, _, _, _, _, _, _, _, _, _, _, _, _, _, _, _, _, _, _, _, _, _, _, _, _, _, _, _, _, _, _, _, _, _, _, _, _, _, _, _, _, _, _, _, _, _, _, _, _, _, _, _, _, _, _, _, _, _, _, _, _, _, _, _, _, _, _, _, _, _, _, _, _, _, _, _, _, _, _, _, _, _, _] _
          refine run_cond_false rfl ?_
          refine run_skip ?_
          refine run_seq ?_
          refine run_region ?_
          refine ops_val (ex_assign rfl) ?_
          refine ops_nil ?_
          change Run _ _ _ _ [_, _, _, _, _, _, _, _, _, _, _, _, _, _, _, _, _, _, _, _, _, _, _, _, _, _, _, _, _, _, _, _, _, _, _, _, _, _, _, _, _, _, _, _, _, _, _, _, _, _, _, _, _, _, _, _, _, _, _, _, _, _, _, _, _, _, _, _, _, _, _, _, _, _, _, _, _, _, _, _, _, _, _, _, _, _, _, _, _, _, _, _, _, _, _, _, _] _
          refine run_ret ?_
          refine fin_ret1 rfl rfl ?_
          exact ⟨rfl, HA.call0 (H17.pick [] (by decide))⟩
    · skip
      refine ops_nil ?_
      change Run _ _ _ _ [_, _, _, _, _, _, _, _, _, _, _, _, _, _, _, _, _, _, _, _, _, _, _, _, _, _, _, _, _, _, _, _, _, _, _, _, _, _, _, _, _, _, _, _, _, _, _, _, _, _, _, _, _, _, _, _, _, _, _, _, _, _, _, _, _, _, _, _, _, _, _, _, _, _, _, _, _, _, _, _, _, _, _, _, _, _, _, _, _, _, _, _, _, _, _, _, _] _
      refine run_cond_false rfl ?_
      refine run_skip ?_
      refine run_seq ?_
      refine run_region ?_
      refine ops_val (ex_move rfl) ?_
      replace HA := HA.call0 (H9.pick [] (by decide))
      refine ops_call_rd (ex_call gf22 rfl) (note_rd AA b c _ (hr.to0 HA) (by omega)) ?_
      intro w10 cr hR Hd
      replace HA := HA.call0 Hd
      have H10 := Hp.refl w10
      refine ops_val (ex_move rfl) ?_
      refine ops_val (ex_extract rfl rfl) ?_
      change Ops _ _ _ _ _ _ [_, _, _, _, _, _, _, _, _, _, _, _, _, _, _, _, _, _, _, _, _, _, _, _, _, _, _, _, _, _, _, _, _, _, _, _, _, _, _, _, _, _, _, _, _, _, _, _, _, _, _, _, _, _, _, _, _, _, _, _, _, _, _, _, _, _, _, _, _, _, _, _, _, _, _, _, _, _, _, _, _, _, _, _, _, _, _, _, _, _, _, _, _, _, _, _, _] _
      refine ops_val (ex_extract rfl rfl) ?_
      refine ops_alloc ty50 H10 ?_
      intro w11 gk H11 hgk
      have hk : cr.length = 16 := thnote.len hR
      refine ops_store ty50 H11 0 rfl rfl rfl rfl hk (by rw [hk]; decide) (thnote.ones hR) ?_
      intro w12 H12
      have hpu : putAt [.int .i64 0, .int .i64 0, .int .i64 0, .int .i64 0, .int .i64 0, .int .i64 0, .int .i64 0, .slice none 0 0, .int .i64 0, .slice none 0 0, .int .i64 0, .string .empty, .int .i64 0, .int .i64 0, .int .i64 0, .int .i64 0] 0 cr = cr := putAt_all hk
      rw [hpu] at H12
      refine ops_val (ex_assign rfl) ?_
      refine ops_nil ?_
      change Run _ _ _ _ [_, _, _, _, _, _, _, _, _, _, _, _, _, _, _, _, _, _, _, _, _, _, _, _, _, _, _, _, _, _, _, _, _, _, _, _, _, _, _, _, _, _, _, _, _, _, _, _, _, _, _, _, _, _, _, _, _, _, _, _, _, _, _, _, _, _, _, _, _, _, _, _, _, _, _, _, _, _, _, _, _, _, _, _, _, _, _, _, _, _, _, _, _, _, _, _, _] _
      refine run_seq ?_
      refine run_seq ?_
      refine run_region ?_
      refine ops_val (ex_move rfl) ?_
      refine ops_test (ex_eql rfl rfl) (fun hp64 => ?_) (fun hp64 => ?_)
      · have he : errR thnote b = 0 := by omega
        have hone := one_got one_note he
        refine ops_nil ?_
        change Run _ _ _ _ [_, _, _, _, _, _, _, _, _, _, _, _, _, _, _, _, _, _, _, _, _, _, _, _, _, _, _, _, _, _, _, _, _, _, _, _, _, _, _, _, _, _, _, _, _, _, _, _, _, _, _, _, _, _, _, _, _, _, _, _, _, _, _, _, _, _, _, _, _, _, _, _, _, _, _, _, _, _, _, _, _, _, _, _, _, _, _, _, _, _, _, _, _, _, _, _, _] _
        refine run_cond_true rfl ?_
        refine run_seq ?_
        refine run_region ?_
        refine ops_val (ex_loadN ty50 rfl (vs := cr) hk (H12.cells (i := 0) rfl)) ?_
        have hwk := note_wr (gotR thnote b) cr _ (thnote.mono (thnote.to hR H12 (fun _ _ => by simp)) (fun _ _ => trivial))
        rw [hone] at hwk
        refine ops_call_wr (ex_call gf20 rfl) hwk ?_
        intro w13 ga ca sa qa qb qc qd Hd
        have H13 := H12.call0 Hd
        refine ops_val (ex_move rfl) ?_
        refine ops_val (ex_extract rfl rfl) ?_
        change Ops _ _ _ _ _ _ [_, _, _, _, _, _, _, _, _, _, _, _, _, _, _, _, _, _, _, _, _, _, _, _, _, _, _, _, _, _, _, _, _, _, _, _, _, _, _, _, _, _, _, _, _, _, _, _, _, _, _, _, _, _, _, _, _, _, _, _, _, _, _, _, _, _, _, _, _, _, _, _, _, _, _, _, _, _, _, _, _, _, _, _, _, _, _, _, _, _, _, _, _, _, _, _, _] _
        refine ops_val (ex_extract rfl rfl) ?_
        refine ops_val (ex_assign rfl) ?_
        refine ops_val (ex_assign rfl) ?_
        refine ops_nil ?_
        change Run _ _ _ _ [_, _, _, _, _, _, _, _, _, _, _, _, _, _, _, _, _, _, _, _, _, _, _, _, _, _, _, _, _, _, _, _, _, _, _, _, _, _, _, _, _, _, _, _, _, _, _, _, _, _, _, _, _, _, _, _, _, _, _, _, _, _, _, _, _, _, _, _, _, _, _, _, _, _, _, _, _, _, _, _, _, _, _, _, _, _, _, _, _, _, _, _, _, _, _, _, _] _
        refine run_seq ?_
        refine run_region ?_
        refine ops_val (ex_move rfl) ?_
        refine ops_false (ex_neq rfl rfl) (by simp [errOf]) ?_
        refine ops_val (ex_move rfl) ?_
        change Ops _ _ _ _ _ _ [_, _, _, _, _, _, _, _, _, _, _, _, _, _, _, _, _, _, _, _, _, _, _, _, _, _, _, _, _, _, _, _, _, _, _, _, _, _, _, _, _, _, _, _, _, _, _, _, _, _, _, _, _, _, _, _, _, _, _, _, _, _, _, _, _, _, _, _, _, _, _, _, _, _, _, _, _, _, _, _, _, _, _, _, _, _, _, _, _, _, _, _, _, _, _, _, _] _
        refine ops_yes rfl ?_
        refine ops_val (ex_move rfl) ?_
        refine ops_yes rfl ?_
        refine ops_val (ex_move rfl) ?_
        change Ops _ _ _ _ _ _ [_, _, _, _, _, _, _, _, _, _, _, _, _, _, _, _, _, _, _, _, _, _, _, _, _, _, _, _, _, _, _, _, _, _, _, _, _, _, _, _, _, _, _, _, _, _, _, _, _, _, _, _, _, _, _, _, _, _, _, _, _, _, _, _, _, _, _, _, _, _, _, _, _, _, _, _, _, _, _, _, _, _, _, _, _, _, _, _, _, _, _, _, _, _, _, _, _] _
        refine ops_yes rfl ?_
        have hk2 := bytes_any (hd ga) AA b b ca c _ (H13.rd (i := 1) (o := ga) (xs := u8s b) (sp := sa) rfl (u8s_length1 _) (by decide)) (((hr.to0 HA).to0 H13)) (by omega) (by omega)
        rw [decide_eq_true rfl] at hk2
        refine ops_call_val (ex_call gf16 rfl) hk2 ?_
        intro w14 Hd
        have H14 := H13.call0 Hd
        refine ops_yes rfl ?_
        refine ops_val (ex_not rfl) ?_
        refine ops_val (ex_pick_f rfl rfl) ?_
        refine ops_nil ?_
        change Run _ _ _ _ [_, _, _, _, _, _, _, _, _, _, _, _, _, _, _, _, _, _, _, _, _, _, _, _, _, _, _, _, _, _, _, _, _, _, _, _, _, _, _, _, _, _, _, _, _, _, _, _, _, _, _, _, _, _, _, _, _, _, _, _, _, _, _, _, _, _, _, _, _, _, _, _, _, _, _, _, _, _, _, _, _, _, _, _, _, _, _, _, _, _, _, _, _, _, _, _, _] _
        refine run_cond_false rfl ?_
        refine run_skip ?_
        refine run_seq ?_
        refine run_region ?_
        refine ops_val (ex_move rfl) ?_
        replace HA := HA.call0 (H14.pick [] (by decide))
        refine ops_call_rd (ex_call gf28 rfl) (chart_rd AA b c _ (hr.to0 HA) (by omega)) ?_
        intro w15 cr hR Hd
        replace HA := HA.call0 Hd
        have H15 := Hp.refl w15
        refine ops_val (ex_move rfl) ?_
        refine ops_val (ex_extract rfl rfl) ?_
        change Ops _ _ _ _ _ _ [_, _, _, _, _, _, _, _, _, _, _, _, _, _, _, _, _, _, _, _, _, _, _, _, _, _, _, _, _, _, _, _, _, _, _, _, _, _, _, _, _, _, _, _, _, _, _, _, _, _, _, _, _, _, _, _, _, _, _, _, _, _, _, _, _, _, _, _, _, _, _, _, _, _, _, _, _, _, _, _, _, _, _, _, _, _, _, _, _, _, _, _, _, _, _, _, _] _
        refine ops_val (ex_extract rfl rfl) ?_
        refine ops_alloc ty59 H15 ?_
        intro w16 gk H16 hgk
        have hk : cr.length = 12 := thchart.len hR
        refine ops_store ty59 H16 0 rfl rfl rfl rfl hk (by rw [hk]; decide) (thchart.ones hR) ?_
        intro w17 H17
        have hpu : putAt [.int .i64 0, .slice none 0 0, .int .i64 0, .int .i64 0, .int .i64 0, .int .i64 0, .int .i64 0, .string .empty, .string .empty, .int .i64 0, .int .i64 0, .slice none 0 0] 0 cr = cr := putAt_all hk
        rw [hpu] at H17
        refine ops_val (ex_assign rfl) ?_
        refine ops_nil ?_
        change Run _ _ _ _ [_, _, _, _, _, _, _, _, _, _, _, _, _, _, _, _, _, _, _, _, _, _, _, _, _, _, _, _, _, _, _, _, _, _, _, _, _, _, _, _, _, _, _, _, _, _, _, _, _, _, _, _, _, _, _, _, _, _, _, _, _, _, _, _, _, _, _, _, _, _, _, _, _, _, _, _, _, _, _, _, _, _, _, _, _, _, _, _, _, _, _, _, _, _, _, _, _] _
        refine run_seq ?_
        refine run_seq ?_
        refine run_region ?_
        refine ops_val (ex_move rfl) ?_
        refine ops_test (ex_eql rfl rfl) (fun hp84 => ?_) (fun hp84 => ?_)
        · have he : errR thchart b = 0 := by omega
          have hone := one_got one_chart he
          refine ops_nil ?_
          change Run _ _ _ _ [_, _, _, _, _, _, _, _, _, _, _, _, _, _, _, _, _, _, _, _, _, _, _, _, _, _, _, _, _, _, _, _, _, _, _, _, _, _, _, _, _, _, _, _, _, _, _, _, _, _, _, _, _, _, _, _, _, _, _, _, _, _, _, _, _, _, _, _, _, _, _, _, _, _, _, _, _, _, _, _, _, _, _, _, _, _, _, _, _, _, _, _, _, _, _, _, _] _
          refine run_cond_true rfl ?_
          refine run_seq ?_
          refine run_region ?_
          refine ops_val (ex_loadN ty59 rfl (vs := cr) hk (H17.cells (i := 0) rfl)) ?_
          have hwk := chart_wr (gotR thchart b) cr _ (thchart.mono (thchart.to hR H17 (fun _ _ => by simp)) (fun _ _ => trivial))
          rw [hone] at hwk
          refine ops_call_wr (ex_call gf25 rfl) hwk ?_
          intro w18 ga ca sa qa qb qc qd Hd
          have H18 := H17.call0 Hd
          refine ops_val (ex_move rfl) ?_
          refine ops_val (ex_extract rfl rfl) ?_
          change Ops _ _ _ _ _ _ [_, _, _, _, _, _, _, _, _, _, _, _, _, _, _, _, _, _, _, _, _, _, _, _, _, _, _, _, _, _, _, _, _, _, _, _, _, _, _, _, _, _, _, _, _, _, _, _, _, _, _, _, _, _, _, _, _, _, _, _, _, _, _, _, _, _, _, _, _, _, _, _, _, _, _, _, _, _, _, _, _, _, _, _, _, _, _, _, _, _, _, _, _, _, _, _, _] _
          refine ops_val (ex_extract rfl rfl) ?_
          refine ops_val (ex_assign rfl) ?_
          refine ops_val (ex_assign rfl) ?_
          refine ops_nil ?_
          change Run _ _ _ _ [_, _, _, _, _, _, _, _, _, _, _, _, _, _, _, _, _, _, _, _, _, _, _, _, _, _, _, _, _, _, _, _, _, _, _, _, _, _, _, _, _, _, _, _, _, _, _, _, _, _, _, _, _, _, _, _, _, _, _, _, _, _, _, _, _, _, _, _, _, _, _, _, _, _, _, _, _, _, _, _, _, _, _, _, _, _, _, _, _, _, _, _, _, _, _, _, _] _
          refine run_seq ?_
          refine run_region ?_
          refine ops_val (ex_move rfl) ?_
          refine ops_true (ex_eql rfl rfl) (rfl) ?_
          refine ops_val (ex_move rfl) ?_
          change Ops _ _ _ _ _ _ [_, _, _, _, _, _, _, _, _, _, _, _, _, _, _, _, _, _, _, _, _, _, _, _, _, _, _, _, _, _, _, _, _, _, _, _, _, _, _, _, _, _, _, _, _, _, _, _, _, _, _, _, _, _, _, _, _, _, _, _, _, _, _, _, _, _, _, _, _, _, _, _, _, _, _, _, _, _, _, _, _, _, _, _, _, _, _, _, _, _, _, _, _, _, _, _, _] _
          refine ops_yes rfl ?_
          refine ops_val (ex_move rfl) ?_
          refine ops_yes rfl ?_
          refine ops_val (ex_move rfl) ?_
          change Ops _ _ _ _ _ _ [_, _, _, _, _, _, _, _, _, _, _, _, _, _, _, _, _, _, _, _, _, _, _, _, _, _, _, _, _, _, _, _, _, _, _, _, _, _, _, _, _, _, _, _, _, _, _, _, _, _, _, _, _, _, _, _, _, _, _, _, _, _, _, _, _, _, _, _, _, _, _, _, _, _, _, _, _, _, _, _, _, _, _, _, _, _, _, _, _, _, _, _, _, _, _, _, _] _
          refine ops_yes rfl ?_
          have hk2 := bytes_any (hd ga) AA b b ca c _ (H18.rd (i := 1) (o := ga) (xs := u8s b) (sp := sa) rfl (u8s_length1 _) (by decide)) (((hr.to0 HA).to0 H18)) (by omega) (by omega)
          rw [decide_eq_true rfl] at hk2
          refine ops_call_val (ex_call gf16 rfl) hk2 ?_
          intro w19 Hd
          have H19 := H18.call0 Hd
          refine ops_val (ex_pick_t rfl rfl) ?_
          refine ops_val (ex_assign rfl) ?_
          refine ops_nil ?_
          change Run _ _ _ _ [_, _, _, _, _, _, _, _, _, _, _, _, _, _, _, _, _, _, _, _, _, _, _, _, _, _, _, _, _, _, _, _, _, _, _, _, _, _, _, _, _, _, _, _, _, _, _, _, _, _, _, _, _, _, _, _, _, _, _, _, _, _, _, _, _, _, _, _, _, _, _, _, _, _, _, _, _, _, _, _, _, _, _, _, _, _, _, _, _, _, _, _, _, _, _, _, _] _
          refine run_ret ?_
          refine fin_ret1 rfl rfl ?_
          exact ⟨rfl, HA.call0 (H19.pick [] (by decide))⟩
        · skip
          refine ops_nil ?_
          change Run _ _ _ _ [_, _, _, _, _, _, _, _, _, _, _, _, _, _, _, _, _, _, _, _, _, _, _, _, _, _, _, _, _, _, _, _, _, _, _, _, _, _, _, _, _, _, _, _, _, _, _, _, _, _, _, _, _, _, _, _, _, _, _, _, _, _, _, _, _, _, _, _, _, _, _, _, _, _, _, _, _, _, _, _, _, _, _, _, _, _, _, _, _, _, _, _, _, _, _, _, _] _
          refine run_cond_false rfl ?_
          refine run_skip ?_
          refine run_seq ?_
          refine run_region ?_
          refine ops_val (ex_assign rfl) ?_
          refine ops_nil ?_
          change Run _ _ _ _ [_, _, _, _, _, _, _, _, _, _, _, _, _, _, _, _, _, _, _, _, _, _, _, _, _, _, _, _, _, _, _, _, _, _, _, _, _, _, _, _, _, _, _, _, _, _, _, _, _, _, _, _, _, _, _, _, _, _, _, _, _, _, _, _, _, _, _, _, _, _, _, _, _, _, _, _, _, _, _, _, _, _, _, _, _, _, _, _, _, _, _, _, _, _, _, _, _] _
          refine run_ret ?_
          refine fin_ret1 rfl rfl ?_
          exact ⟨rfl, HA.call0 (H17.pick [] (by decide))⟩
      · skip
        refine ops_nil ?_
        change Run _ _ _ _ [_, _, _, _, _, _, _, _, _, _, _, _, _, _, _, _, _, _, _, _, _, _, _, _, _, _, _, _, _, _, _, _, _, _, _, _, _, _, _, _, _, _, _, _, _, _, _, _, _, _, _, _, _, _, _, _, _, _, _, _, _, _, _, _, _, _, _, _, _, _, _, _, _, _, _, _, _, _, _, _, _, _, _, _, _, _, _, _, _, _, _, _, _, _, _, _, _] _
        refine run_cond_false rfl ?_
        refine run_skip ?_
        refine run_seq ?_
        refine run_region ?_
        refine ops_val (ex_move rfl) ?_
        replace HA := HA.call0 (H12.pick [] (by decide))
        refine ops_call_rd (ex_call gf28 rfl) (chart_rd AA b c _ (hr.to0 HA) (by omega)) ?_
        intro w13 cr hR Hd
        replace HA := HA.call0 Hd
        have H13 := Hp.refl w13
        refine ops_val (ex_move rfl) ?_
        refine ops_val (ex_extract rfl rfl) ?_
        change Ops _ _ _ _ _ _ [_, _, _, _, _, _, _, _, _, _, _, _, _, _, _, _, _, _, _, _, _, _, _, _, _, _, _, _, _, _, _, _, _, _, _, _, _, _, _, _, _, _, _, _, _, _, _, _, _, _, _, _, _, _, _, _, _, _, _, _, _, _, _, _, _, _, _, _, _, _, _, _, _, _, _, _, _, _, _, _, _, _, _, _, _, _, _, _, _, _, _, _, _, _, _, _, _] _
        refine ops_val (ex_extract rfl rfl) ?_
        refine ops_alloc ty59 H13 ?_
        intro w14 gk H14 hgk
        have hk : cr.length = 12 := thchart.len hR
        refine ops_store ty59 H14 0 rfl rfl rfl rfl hk (by rw [hk]; decide) (thchart.ones hR) ?_
        intro w15 H15
        have hpu : putAt [.int .i64 0, .slice none 0 0, .int .i64 0, .int .i64 0, .int .i64 0, .int .i64 0, .int .i64 0, .string .empty, .string .empty, .int .i64 0, .int .i64 0, .slice none 0 0] 0 cr = cr := putAt_all hk
        rw [hpu] at H15
        refine ops_val (ex_assign rfl) ?_
        refine ops_nil ?_
        change Run _ _ _ _ [_, _, _, _, _, _, _, _, _, _, _, _, _, _, _, _, _, _, _, _, _, _, _, _, _, _, _, _, _, _, _, _, _, _, _, _, _, _, _, _, _, _, _, _, _, _, _, _, _, _, _, _, _, _, _, _, _, _, _, _, _, _, _, _, _, _, _, _, _, _, _, _, _, _, _, _, _, _, _, _, _, _, _, _, _, _, _, _, _, _, _, _, _, _, _, _, _] _
        refine run_seq ?_
        refine run_seq ?_
        refine run_region ?_
        refine ops_val (ex_move rfl) ?_
        refine ops_test (ex_eql rfl rfl) (fun hp84 => ?_) (fun hp84 => ?_)
        · have he : errR thchart b = 0 := by omega
          have hone := one_got one_chart he
          refine ops_nil ?_
          change Run _ _ _ _ [_, _, _, _, _, _, _, _, _, _, _, _, _, _, _, _, _, _, _, _, _, _, _, _, _, _, _, _, _, _, _, _, _, _, _, _, _, _, _, _, _, _, _, _, _, _, _, _, _, _, _, _, _, _, _, _, _, _, _, _, _, _, _, _, _, _, _, _, _, _, _, _, _, _, _, _, _, _, _, _, _, _, _, _, _, _, _, _, _, _, _, _, _, _, _, _, _] _
          refine run_cond_true rfl ?_
          refine run_seq ?_
          refine run_region ?_
          refine ops_val (ex_loadN ty59 rfl (vs := cr) hk (H15.cells (i := 0) rfl)) ?_
          have hwk := chart_wr (gotR thchart b) cr _ (thchart.mono (thchart.to hR H15 (fun _ _ => by simp)) (fun _ _ => trivial))
          rw [hone] at hwk
          refine ops_call_wr (ex_call gf25 rfl) hwk ?_
          intro w16 ga ca sa qa qb qc qd Hd
          have H16 := H15.call0 Hd
          refine ops_val (ex_move rfl) ?_
          refine ops_val (ex_extract rfl rfl) ?_
          change Ops _ _ _ _ _ _ [_, _, _, _, _, _, _, _, _, _, _, _, _, _, _, _, _, _, _, _, _, _, _, _, _, _, _, _, _, _, _, _, _, _, _, _, _, _, _, _, _, _, _, _, _, _, _, _, _, _, _, _, _, _, _, _, _, _, _, _, _, _, _, _, _, _, _, _, _, _, _, _, _, _, _, _, _, _, _, _, _, _, _, _, _, _, _, _, _, _, _, _, _, _, _, _, _] _
          refine ops_val (ex_extract rfl rfl) ?_
          refine ops_val (ex_assign rfl) ?_
          refine ops_val (ex_assign rfl) ?_
          refine ops_nil ?_
          change Run _ _ _ _ [_, _, _, _, _, _, _, _, _, _, _, _, _, _, _, _, _, _, _, _, _, _, _, _, _, _, _, _, _, _, _, _, _, _, _, _, _, _, _, _, _, _, _, _, _, _, _, _, _, _, _, _, _, _, _, _, _, _, _, _, _, _, _, _, _, _, _, _, _, _, _, _, _, _, _, _, _, _, _, _, _, _, _, _, _, _, _, _, _, _, _, _, _, _, _, _, _] _
          refine run_seq ?_
          refine run_region ?_
          refine ops_val (ex_move rfl) ?_
          refine ops_true (ex_eql rfl rfl) (rfl) ?_
          refine ops_val (ex_move rfl) ?_
          change Ops _ _ _ _ _ _ [_, _, _, _, _, _, _, _, _, _, _, _, _, _, _, _, _, _, _, _, _, _, _, _, _, _, _, _, _, _, _, _, _, _, _, _, _, _, _, _, _, _, _, _, _, _, _, _, _, _, _, _, _, _, _, _, _, _, _, _, _, _, _, _, _, _, _, _, _, _, _, _, _, _, _, _, _, _, _, _, _, _, _, _, _, _, _, _, _, _, _, _, _, _, _, _, _] _
          refine ops_yes rfl ?_
          refine ops_val (ex_move rfl) ?_
          refine ops_yes rfl ?_
          refine ops_val (ex_move rfl) ?_
          change Ops _ _ _ _ _ _ [_, _, _, _, _, _, _, _, _, _, _, _, _, _, _, _, _, _, _, _, _, _, _, _, _, _, _, _, _, _, _, _, _, _, _, _, _, _, _, _, _, _, _, _, _, _, _, _, _, _, _, _, _, _, _, _, _, _, _, _, _, _, _, _, _, _, _, _, _, _, _, _, _, _, _, _, _, _, _, _, _, _, _, _, _, _, _, _, _, _, _, _, _, _, _, _, _] _
          refine ops_yes rfl ?_
          have hk2 := bytes_any (hd ga) AA b b ca c _ (H16.rd (i := 1) (o := ga) (xs := u8s b) (sp := sa) rfl (u8s_length1 _) (by decide)) (((hr.to0 HA).to0 H16)) (by omega) (by omega)
          rw [decide_eq_true rfl] at hk2
          refine ops_call_val (ex_call gf16 rfl) hk2 ?_
          intro w17 Hd
          have H17 := H16.call0 Hd
          refine ops_val (ex_pick_t rfl rfl) ?_
          refine ops_val (ex_assign rfl) ?_
          refine ops_nil ?_
          change Run _ _ _ _ [_, _, _, _, _, _, _, _, _, _, _, _, _, _, _, _, _, _, _, _, _, _, _, _, _, _, _, _, _, _, _, _, _, _, _, _, _, _, _, _, _, _, _, _, _, _, _, _, _, _, _, _, _, _, _, _, _, _, _, _, _, _, _, _, _, _, _, _, _, _, _, _, _, _, _, _, _, _, _, _, _, _, _, _, _, _, _, _, _, _, _, _, _, _, _, _, _] _
          refine run_ret ?_
          refine fin_ret1 rfl rfl ?_
          exact ⟨rfl, HA.call0 (H17.pick [] (by decide))⟩
        · skip
          refine ops_nil ?_
          change Run _ _ _ _ [_, _, _, _, _, _, _, _, _, _, _, _, _, _, _, _, _, _, _, _, _, _, _, _, _, _, _, _, _, _, _, _, _, _, _, _, _, _, _, _, _, _, _, _, _, _, _, _, _, _, _, _, _, _, _, _, _, _, _, _, _, _, _, _, _, _, _, _, _, _, _, _, _, _, _, _, _, _, _, _, _, _, _, _, _, _, _, _, _, _, _, _, _, _, _, _, _] _
          refine run_cond_false rfl ?_
          refine run_skip ?_
          refine run_seq ?_
          refine run_region ?_
          refine ops_val (ex_assign rfl) ?_
          refine ops_nil ?_
          change Run _ _ _ _ [_, _, _, _, _, _, _, _, _, _, _, _, _, _, _, _, _, _, _, _, _, _, _, _, _, _, _, _, _, _, _, _, _, _, _, _, _, _, _, _, _, _, _, _, _, _, _, _, _, _, _, _, _, _, _, _, _, _, _, _, _, _, _, _, _, _, _, _, _, _, _, _, _, _, _, _, _, _, _, _, _, _, _, _, _, _, _, _, _, _, _, _, _, _, _, _, _] _
          refine run_ret ?_
          refine fin_ret1 rfl rfl ?_
          exact ⟨rfl, HA.call0 (H15.pick [] (by decide))⟩
  · skip
    refine ops_nil ?_
    change Run _ _ _ _ [_, _, _, _, _, _, _, _, _, _, _, _, _, _, _, _, _, _, _, _, _, _, _, _, _, _, _, _, _, _, _, _, _, _, _, _, _, _, _, _, _, _, _, _, _, _, _, _, _, _, _, _, _, _, _, _, _, _, _, _, _, _, _, _, _, _, _, _, _, _, _, _, _, _, _, _, _, _, _, _, _, _, _, _, _, _, _, _, _, _, _, _, _, _, _, _, _] _
    refine run_cond_false rfl ?_
    refine run_skip ?_
    refine run_seq ?_
    refine run_region ?_
    refine ops_val (ex_move rfl) ?_
    replace HA := HA.call0 (H4.pick [] (by decide))
    refine ops_call_rd (ex_call gf36 rfl) (state_rd AA b c _ (hr.to0 HA) (by omega)) ?_
    intro w5 cr hR Hd
    replace HA := HA.call0 Hd
    have H5 := Hp.refl w5
    refine ops_val (ex_move rfl) ?_
    refine ops_val (ex_extract rfl rfl) ?_
    change Ops _ _ _ _ _ _ [_, _, _, _, _, _, _, _, _, _, _, _, _, _, _, _, _, _, _, _, _, _, _, _, _, _, _, _, _, _, _, _, _, _, _, _, _, _, _, _, _, _, _, _, _, _, _, _, _, _, _, _, _, _, _, _, _, _, _, _, _, _, _, _, _, _, _, _, _, _, _, _, _, _, _, _, _, _, _, _, _, _, _, _, _, _, _, _, _, _, _, _, _, _, _, _, _] _
    refine ops_val (ex_extract rfl rfl) ?_
    refine ops_alloc ty89 H5 ?_
    intro w6 gk H6 hgk
    have hk : cr.length = 29 := thstate.len hR
    refine ops_store ty89 H6 0 rfl rfl rfl rfl hk (by rw [hk]; decide) (thstate.ones hR) ?_
    intro w7 H7
    have hpu : putAt [.int .i64 0, .int .i64 0, .bool false, .string .empty, .string .empty, .int .i64 0, .slice none 0 0, .slice none 0 0, .slice none 0 0, .slice none 0 0, .slice none 0 0, .int .i64 0, .int .i64 0, .int .i64 0, .string .empty, .string .empty, .int .i64 0, .int .i64 0, .int .i64 0, .int .i64 0, .int .i64 0, .string .empty, .string .empty, .int .i64 0, .int .i64 0, .slice none 0 0, .int .i64 0, .int .i64 0, .int .i64 0] 0 cr = cr := putAt_all hk
    rw [hpu] at H7
    refine ops_val (ex_assign rfl) ?_
    refine ops_nil ?_
    change Run _ _ _ _ [_, _, _, _, _, _, _, _, _, _, _, _, _, _, _, _, _, _, _, _, _, _, _, _, _, _, _, _, _, _, _, _, _, _, _, _, _, _, _, _, _, _, _, _, _, _, _, _, _, _, _, _, _, _, _, _, _, _, _, _, _, _, _, _, _, _, _, _, _, _, _, _, _, _, _, _, _, _, _, _, _, _, _, _, _, _, _, _, _, _, _, _, _, _, _, _, _] _
    refine run_seq ?_
    refine run_seq ?_
    refine run_region ?_
    refine ops_val (ex_move rfl) ?_
    refine ops_test (ex_eql rfl rfl) (fun hp44 => ?_) (fun hp44 => ?_)
    · have he : errR thstate b = 0 := by omega
      have hone := one_got one_state he
      refine ops_nil ?_
      change Run _ _ _ _ [_, _, _, _, _, _, _, _, _, _, _, _, _, _, _, _, _, _, _, _, _, _, _, _, _, _, _, _, _, _, _, _, _, _, _, _, _, _, _, _, _, _, _, _, _, _, _, _, _, _, _, _, _, _, _, _, _, _, _, _, _, _, _, _, _, _, _, _, _, _, _, _, _, _, _, _, _, _, _, _, _, _, _, _, _, _, _, _, _, _, _, _, _, _, _, _, _] _
      refine run_cond_true rfl ?_
      refine run_seq ?_
      refine run_region ?_
      refine ops_val (ex_loadN ty89 rfl (vs := cr) hk (H7.cells (i := 0) rfl)) ?_
      have hwk := state_wr (gotR thstate b) cr _ (thstate.mono (thstate.to hR H7 (fun _ _ => by simp)) (fun _ _ => trivial))
      rw [hone] at hwk
      refine ops_call_wr (ex_call gf37 rfl) hwk ?_
      intro w8 ga ca sa qa qb qc qd Hd
      have H8 := H7.call0 Hd
      refine ops_val (ex_move rfl) ?_
      refine ops_val (ex_extract rfl rfl) ?_
      change Ops _ _ _ _ _ _ [_, _, _, _, _, _, _, _, _, _, _, _, _, _, _, _, _, _, _, _, _, _, _, _, _, _, _, _, _, _, _, _, _, _, _, _, _, _, _, _, _, _, _, _, _, _, _, _, _, _, _, _, _, _, _, _, _, _, _, _, _, _, _, _, _, _, _, _, _, _, _, _, _, _, _, _, _, _, _, _, _, _, _, _, _, _, _, _, _, _, _, _, _, _, _, _, _] _
      refine ops_val (ex_extract rfl rfl) ?_
      refine ops_val (ex_assign rfl) ?_
      refine ops_val (ex_assign rfl) ?_
      refine ops_nil ?_
      change Run _ _ _ _ [_, _, _, _, _, _, _, _, _, _, _, _, _, _, _, _, _, _, _, _, _, _, _, _, _, _, _, _, _, _, _, _, _, _, _, _, _, _, _, _, _, _, _, _, _, _, _, _, _, _, _, _, _, _, _, _, _, _, _, _, _, _, _, _, _, _, _, _, _, _, _, _, _, _, _, _, _, _, _, _, _, _, _, _, _, _, _, _, _, _, _, _, _, _, _, _, _] _
      refine run_seq ?_
      refine run_region ?_
      refine ops_val (ex_move rfl) ?_
      refine ops_false (ex_neq rfl rfl) (by simp [errOf]) ?_
      refine ops_val (ex_move rfl) ?_
      change Ops _ _ _ _ _ _ [_, _, _, _, _, _, _, _, _, _, _, _, _, _, _, _, _, _, _, _, _, _, _, _, _, _, _, _, _, _, _, _, _, _, _, _, _, _, _, _, _, _, _, _, _, _, _, _, _, _, _, _, _, _, _, _, _, _, _, _, _, _, _, _, _, _, _, _, _, _, _, _, _, _, _, _, _, _, _, _, _, _, _, _, _, _, _, _, _, _, _, _, _, _, _, _, _] _
      refine ops_yes rfl ?_
      refine ops_val (ex_move rfl) ?_
      refine ops_yes rfl ?_
      refine ops_val (ex_move rfl) ?_
      change Ops _ _ _ _ _ _ [_, _, _, _, _, _, _, _, _, _, _, _, _, _, _, _, _, _, _, _, _, _, _, _, _, _, _, _, _, _, _, _, _, _, _, _, _, _, _, _, _, _, _, _, _, _, _, _, _, _, _, _, _, _, _, _, _, _, _, _, _, _, _, _, _, _, _, _, _, _, _, _, _, _, _, _, _, _, _, _, _, _, _, _, _, _, _, _, _, _, _, _, _, _, _, _, _] _
      refine ops_yes rfl ?_
      have hk2 := bytes_any (hd ga) AA b b ca c _ (H8.rd (i := 1) (o := ga) (xs := u8s b) (sp := sa) rfl (u8s_length1 _) (by decide)) (((hr.to0 HA).to0 H8)) (by omega) (by omega)
      rw [decide_eq_true rfl] at hk2
      refine ops_call_val (ex_call gf16 rfl) hk2 ?_
      intro w9 Hd
      have H9 := H8.call0 Hd
      refine ops_yes rfl ?_
      refine ops_val (ex_not rfl) ?_
      refine ops_val (ex_pick_f rfl rfl) ?_
      refine ops_nil ?_
      change Run _ _ _ _ [_, _, _, _, _, _, _, _, _, _, _, _, _, _, _, _, _, _, _, _, _, _, _, _, _, _, _, _, _, _, _, _, _, _, _, _, _, _, _, _, _, _, _, _, _, _, _, _, _, _, _, _, _, _, _, _, _, _, _, _, _, _, _, _, _, _, _, _, _, _, _, _, _, _, _, _, _, _, _, _, _, _, _, _, _, _, _, _, _, _, _, _, _, _, _, _, _] _
      refine run_cond_false rfl ?_
      refine run_skip ?_
      refine run_seq ?_
      refine run_region ?_
      refine ops_val (ex_move rfl) ?_
      replace HA := HA.call0 (H9.pick [] (by decide))
      refine ops_call_rd (ex_call gf22 rfl) (note_rd AA b c _ (hr.to0 HA) (by omega)) ?_
      intro w10 cr hR Hd
      replace HA := HA.call0 Hd
      have H10 := Hp.refl w10
      refine ops_val (ex_move rfl) ?_
      refine ops_val (ex_extract rfl rfl) ?_
      change Ops _ _ _ _ _ _ [_, _, _, _, _, _, _, _, _, _, _, _, _, _, _, _, _, _, _, _, _, _, _, _, _, _, _, _, _, _, _, _, _, _, _, _, _, _, _, _, _, _, _, _, _, _, _, _, _, _, _, _, _, _, _, _, _, _, _, _, _, _, _, _, _, _, _, _, _, _, _, _, _, _, _, _, _, _, _, _, _, _, _, _, _, _, _, _, _, _, _, _, _, _, _, _, _] _
      refine ops_val (ex_extract rfl rfl) ?_
      refine ops_alloc ty50 H10 ?_
      intro w11 gk H11 hgk
      have hk : cr.length = 16 := thnote.len hR
      refine ops_store ty50 H11 0 rfl rfl rfl rfl hk (by rw [hk]; decide) (thnote.ones hR) ?_
      intro w12 H12
      have hpu : putAt [.int .i64 0, .int .i64 0, .int .i64 0, .int .i64 0, .int .i64 0, .int .i64 0, .int .i64 0, .slice none 0 0, .int .i64 0, .slice none 0 0, .int .i64 0, .string .empty, .int .i64 0, .int .i64 0, .int .i64 0, .int .i64 0] 0 cr = cr := putAt_all hk
      rw [hpu] at H12
      refine ops_val (ex_assign rfl) ?_
      refine ops_nil ?_
      change Run _ _ _ _ [_, _, _, _, _, _, _, _, _, _, _, _, _, _, _, _, _, _, _, _, _, _, _, _, _, _, _, _, _, _, _, _, _, _, _, _, _, _, _, _, _, _, _, _, _, _, _, _, _, _, _, _, _, _, _, _, _, _, _, _, _, _, _, _, _, _, _, _, _, _, _, _, _, _, _, _, _, _, _, _, _, _, _, _, _, _, _, _, _, _, _, _, _, _, _, _, _] _
      refine run_seq ?_
      refine run_seq ?_
      refine run_region ?_
      refine ops_val (ex_move rfl) ?_
      refine ops_test (ex_eql rfl rfl) (fun hp64 => ?_) (fun hp64 => ?_)
      · have he : errR thnote b = 0 := by omega
        have hone := one_got one_note he
        refine ops_nil ?_
        change Run _ _ _ _ [_, _, _, _, _, _, _, _, _, _, _, _, _, _, _, _, _, _, _, _, _, _, _, _, _, _, _, _, _, _, _, _, _, _, _, _, _, _, _, _, _, _, _, _, _, _, _, _, _, _, _, _, _, _, _, _, _, _, _, _, _, _, _, _, _, _, _, _, _, _, _, _, _, _, _, _, _, _, _, _, _, _, _, _, _, _, _, _, _, _, _, _, _, _, _, _, _] _
        refine run_cond_true rfl ?_
        refine run_seq ?_
        refine run_region ?_
        refine ops_val (ex_loadN ty50 rfl (vs := cr) hk (H12.cells (i := 0) rfl)) ?_
        have hwk := note_wr (gotR thnote b) cr _ (thnote.mono (thnote.to hR H12 (fun _ _ => by simp)) (fun _ _ => trivial))
        rw [hone] at hwk
        refine ops_call_wr (ex_call gf20 rfl) hwk ?_
        intro w13 ga ca sa qa qb qc qd Hd
        have H13 := H12.call0 Hd
        refine ops_val (ex_move rfl) ?_
        refine ops_val (ex_extract rfl rfl) ?_
        change Ops _ _ _ _ _ _ [_, _, _, _, _, _, _, _, _, _, _, _, _, _, _, _, _, _, _, _, _, _, _, _, _, _, _, _, _, _, _, _, _, _, _, _, _, _, _, _, _, _, _, _, _, _, _, _, _, _, _, _, _, _, _, _, _, _, _, _, _, _, _, _, _, _, _, _, _, _, _, _, _, _, _, _, _, _, _, _, _, _, _, _, _, _, _, _, _, _, _, _, _, _, _, _, _] _
        refine ops_val (ex_extract rfl rfl) ?_
        refine ops_val (ex_assign rfl) ?_
        refine ops_val (ex_assign rfl) ?_
        refine ops_nil ?_
        change Run _ _ _ _ [_, _, _, _, _, _, _, _, _, _, _, _, _, _, _, _, _, _, _, _, _, _, _, _, _, _, _, _, _, _, _, _, _, _, _, _, _, _, _, _, _, _, _, _, _, _, _, _, _, _, _, _, _, _, _, _, _, _, _, _, _, _, _, _, _, _, _, _, _, _, _, _, _, _, _, _, _, _, _, _, _, _, _, _, _, _, _, _, _, _, _, _, _, _, _, _, _] _
        refine run_seq ?_
        refine run_region ?_
        refine ops_val (ex_move rfl) ?_
        refine ops_false (ex_neq rfl rfl) (by simp [errOf]) ?_
        refine ops_val (ex_move rfl) ?_
        change Ops _ _ _ _ _ _ [_, _, _, _, _, _, _, _, _, _, _, _, _, _, _, _, _, _, _, _, _, _, _, _, _, _, _, _, _, _, _, _, _, _, _, _, _, _, _, _, _, _, _, _, _, _, _, _, _, _, _, _, _, _, _, _, _, _, _, _, _, _, _, _, _, _, _, _, _, _, _, _, _, _, _, _, _, _, _, _, _, _, _, _, _, _, _, _, _, _, _, _, _, _, _, _, _] _
        refine ops_yes rfl ?_
        refine ops_val (ex_move rfl) ?_
        refine ops_yes rfl ?_
        refine ops_val (ex_move rfl) ?_
        change Ops _ _ _ _ _ _ [_, _, _, _, _, _, _, _, _, _, _, _, _, _, _, _, _, _, _, _, _, _, _, _, _, _, _, _, _, _, _, _, _, _, _, _, _, _, _, _, _, _, _, _, _, _, _, _, _, _, _, _, _, _, _, _, _, _, _, _, _, _, _, _, _, _, _, _, _, _, _, _, _, _, _, _, _, _, _, _, _, _, _, _, _, _, _, _, _, _, _, _, _, _, _, _, _] _
        refine ops_yes rfl ?_
        have hk2 := bytes_any (hd ga) AA b b ca c _ (H13.rd (i := 1) (o := ga) (xs := u8s b) (sp := sa) rfl (u8s_length1 _) (by decide)) (((hr.to0 HA).to0 H13)) (by omega) (by omega)
        rw [decide_eq_true rfl] at hk2
        refine ops_call_val (ex_call gf16 rfl) hk2 ?_
        intro w14 Hd
        have H14 := H13.call0 Hd
        refine ops_yes rfl ?_
        refine ops_val (ex_not rfl) ?_
        refine ops_val (ex_pick_f rfl rfl) ?_
        refine ops_nil ?_
        change Run _ _ _ _ [_, _, _, _, _, _, _, _, _, _, _, _, _, _, _, _, _, _, _, _, _, _, _, _, _, _, _, _, _, _, _, _, _, _, _, _, _, _, _, _, _, _, _, _, _, _, _, _, _, _, _, _, _, _, _, _, _, _, _, _, _, _, _, _, _, _, _, _, _, _, _, _, _, _, _, _, _, _, _, _, _, _, _, _, _, _, _, _, _, _, _, _, _, _, _, _, _] _
        refine run_cond_false rfl ?_
        refine run_skip ?_
        refine run_seq ?_
        refine run_region ?_
        refine ops_val (ex_move rfl) ?_
        replace HA := HA.call0 (H14.pick [] (by decide))
        refine ops_call_rd (ex_call gf28 rfl) (chart_rd AA b c _ (hr.to0 HA) (by omega)) ?_
        intro w15 cr hR Hd
        replace HA := HA.call0 Hd
        have H15 := Hp.refl w15
        refine ops_val (ex_move rfl) ?_
        refine ops_val (ex_extract rfl rfl) ?_
        change Ops _ _ _ _ _ _ [_, _, _, _, _, _, _, _, _, _, _, _, _, _, _, _, _, _, _, _, _, _, _, _, _, _, _, _, _, _, _, _, _, _, _, _, _, _, _, _, _, _, _, _, _, _, _, _, _, _, _, _, _, _, _, _, _, _, _, _, _, _, _, _, _, _, _, _, _, _, _, _, _, _, _, _, _, _, _, _, _, _, _, _, _, _, _, _, _, _, _, _, _, _, _, _, _] _
        refine ops_val (ex_extract rfl rfl) ?_
        refine ops_alloc ty59 H15 ?_
        intro w16 gk H16 hgk
        have hk : cr.length = 12 := thchart.len hR
        refine ops_store ty59 H16 0 rfl rfl rfl rfl hk (by rw [hk]; decide) (thchart.ones hR) ?_
        intro w17 H17
        have hpu : putAt [.int .i64 0, .slice none 0 0, .int .i64 0, .int .i64 0, .int .i64 0, .int .i64 0, .int .i64 0, .string .empty, .string .empty, .int .i64 0, .int .i64 0, .slice none 0 0] 0 cr = cr := putAt_all hk
        rw [hpu] at H17
        refine ops_val (ex_assign rfl) ?_
        refine ops_nil ?_
        change Run _ _ _ _ [_, _, _, _, _, _, _, _, _, _, _, _, _, _, _, _, _, _, _, _, _, _, _, _, _, _, _, _, _, _, _, _, _, _, _, _, _, _, _, _, _, _, _, _, _, _, _, _, _, _, _, _, _, _, _, _, _, _, _, _, _, _, _, _, _, _, _, _, _, _, _, _, _, _, _, _, _, _, _, _, _, _, _, _, _, _, _, _, _, _, _, _, _, _, _, _, _] _
        refine run_seq ?_
        refine run_seq ?_
        refine run_region ?_
        refine ops_val (ex_move rfl) ?_
        refine ops_test (ex_eql rfl rfl) (fun hp84 => ?_) (fun hp84 => ?_)
        · have he : errR thchart b = 0 := by omega
          have hone := one_got one_chart he
          refine ops_nil ?_
          change Run _ _ _ _ [_, _, _, _, _, _, _, _, _, _, _, _, _, _, _, _, _, _, _, _, _, _, _, _, _, _, _, _, _, _, _, _, _, _, _, _, _, _, _, _, _, _, _, _, _, _, _, _, _, _, _, _, _, _, _, _, _, _, _, _, _, _, _, _, _, _, _, _, _, _, _, _, _, _, _, _, _, _, _, _, _, _, _, _, _, _, _, _, _, _, _, _, _, _, _, _, _] _
          refine run_cond_true rfl ?_
          refine run_seq ?_
          refine run_region ?_
          refine ops_val (ex_loadN ty59 rfl (vs := cr) hk (H17.cells (i := 0) rfl)) ?_
          have hwk := chart_wr (gotR thchart b) cr _ (thchart.mono (thchart.to hR H17 (fun _ _ => by simp)) (fun _ _ => trivial))
          rw [hone] at hwk
          refine ops_call_wr (ex_call gf25 rfl) hwk ?_
          intro w18 ga ca sa qa qb qc qd Hd
          have H18 := H17.call0 Hd
          refine ops_val (ex_move rfl) ?_
          refine ops_val (ex_extract rfl rfl) ?_
          change Ops _ _ _ _ _ _ [_, _, _, _, _, _, _, _, _, _, _, _, _, _, _, _, _, _, _, _, _, _, _, _, _, _, _, _, _, _, _, _, _, _, _, _, _, _, _, _, _, _, _, _, _, _, _, _, _, _, _, _, _, _, _, _, _, _, _, _, _, _, _, _, _, _, _, _, _, _, _, _, _, _, _, _, _, _, _, _, _, _, _, _, _, _, _, _, _, _, _, _, _, _, _, _, _] _
          refine ops_val (ex_extract rfl rfl) ?_
          refine ops_val (ex_assign rfl) ?_
          refine ops_val (ex_assign rfl) ?_
          refine ops_nil ?_
          change Run _ _ _ _ [_, _, _, _, _, _, _, _, _, _, _, _, _, _, _, _, _, _, _, _, _, _, _, _, _, _, _, _, _, _, _, _, _, _, _, _, _, _, _, _, _, _, _, _, _, _, _, _, _, _, _, _, _, _, _, _, _, _, _, _, _, _, _, _, _, _, _, _, _, _, _, _, _, _, _, _, _, _, _, _, _, _, _, _, _, _, _, _, _, _, _, _, _, _, _, _, _] _
          refine run_seq ?_
          refine run_region ?_
          refine ops_val (ex_move rfl) ?_
          refine ops_true (ex_eql rfl rfl) (rfl) ?_
          refine ops_val (ex_move rfl) ?_
          change Ops _ _ _ _ _ _ [_, _, _, _, _, _, _, _, _, _, _, _, _, _, _, _, _, _, _, _, _, _, _, _, _, _, _, _, _, _, _, _, _, _, _, _, _, _, _, _, _, _, _, _, _, _, _, _, _, _, _, _, _, _, _, _, _, _, _, _, _, _, _, _, _, _, _, _, _, _, _, _, _, _, _, _, _, _, _, _, _, _, _, _, _, _, _, _, _, _, _, _, _, _, _, _, _] _
          refine ops_yes rfl ?_
          refine ops_val (ex_move rfl) ?_
          refine ops_yes rfl ?_
          refine ops_val (ex_move rfl) ?_
          change Ops _ _ _ _ _ _ [_, _, _, _, _, _, _, _, _, _, _, _, _, _, _, _, _, _, _, _, _, _, _, _, _, _, _, _, _, _, _, _, _, _, _, _, _, _, _, _, _, _, _, _, _, _, _, _, _, _, _, _, _, _, _, _, _, _, _, _, _, _, _, _, _, _, _, _, _, _, _, _, _, _, _, _, _, _, _, _, _, _, _, _, _, _, _, _, _, _, _, _, _, _, _, _, _] _
          refine ops_yes rfl ?_
          have hk2 := bytes_any (hd ga) AA b b ca c _ (H18.rd (i := 1) (o := ga) (xs := u8s b) (sp := sa) rfl (u8s_length1 _) (by decide)) (((hr.to0 HA).to0 H18)) (by omega) (by omega)
          rw [decide_eq_true rfl] at hk2
          refine ops_call_val (ex_call gf16 rfl) hk2 ?_
          intro w19 Hd
          have H19 := H18.call0 Hd
          refine ops_val (ex_pick_t rfl rfl) ?_
          refine ops_val (ex_assign rfl) ?_
          refine ops_nil ?_
          change Run _ _ _ _ [_, _, _, _, _, _, _, _, _, _, _, _, _, _, _, _, _, _, _, _, _, _, _, _, _, _, _, _, _, _, _, _, _, _, _, _, _, _, _, _, _, _, _, _, _, _, _, _, _, _, _, _, _, _, _, _, _, _, _, _, _, _, _, _, _, _, _, _, _, _, _, _, _, _, _, _, _, _, _, _, _, _, _, _, _, _, _, _, _, _, _, _, _, _, _, _, _] _
          refine run_ret ?_
          refine fin_ret1 rfl rfl ?_
          exact ⟨rfl, HA.call0 (H19.pick [] (by decide))⟩
        · skip
          refine ops_nil ?_
          change Run _ _ _ _ [_, _, _, _, _, _, _, _, _, _, _, _, _, _, _, _, _, _, _, _, _, _, _, _, _, _, _, _, _, _, _, _, _, _, _, _, _, _, _, _, _, _, _, _, _, _, _, _, _, _, _, _, _, _, _, _, _, _, _, _, _, _, _, _, _, _, _, _, _, _, _, _, _, _, _, _, _, _, _, _, _, _, _, _, _, _, _, _, _, _, _, _, _, _, _, _, _] _
          refine run_cond_false rfl ?_
          refine run_skip ?_
          refine run_seq ?_
          refine run_region ?_
          refine ops_val (ex_assign rfl) ?_
          refine ops_nil ?_
          change Run _ _ _ _ [_, _, _, _, _, _, _, _, _, _, _, _, _, _, _, _, _, _, _, _, _, _, _, _, _, _, _, _, _, _, _, _, _, _, _, _, _, _, _, _, _, _, _, _, _, _, _, _, _, _, _, _, _, _, _, _, _, _, _, _, _, _, _, _, _, _, _, _, _, _, _, _, _, _, _, _, _, _, _, _, _, _, _, _, _, _, _, _, _, _, _, _, _, _, _, _, _] _
          refine run_ret ?_
          refine fin_ret1 rfl rfl ?_
          exact ⟨rfl, HA.call0 (H17.pick [] (by decide))⟩
      · skip
        refine ops_nil ?_
        change Run _ _ _ _ [_, _, _, _, _, _, _, _, _, _, _, _, _, _, _, _, _, _, _, _, _, _, _, _, _, _, _, _, _, _, _, _, _, _, _, _, _, _, _, _, _, _, _, _, _, _, _, _, _, _, _, _, _, _, _, _, _, _, _, _, _, _, _, _, _, _, _, _, _, _, _, _, _, _, _, _, _, _, _, _, _, _, _, _, _, _, _, _, _, _, _, _, _, _, _, _, _] _
        refine run_cond_false rfl ?_
        refine run_skip ?_
        refine run_seq ?_
        refine run_region ?_
        refine ops_val (ex_move rfl) ?_
        replace HA := HA.call0 (H12.pick [] (by decide))
        refine ops_call_rd (ex_call gf28 rfl) (chart_rd AA b c _ (hr.to0 HA) (by omega)) ?_
        intro w13 cr hR Hd
        replace HA := HA.call0 Hd
        have H13 := Hp.refl w13
        refine ops_val (ex_move rfl) ?_
        refine ops_val (ex_extract rfl rfl) ?_
        change Ops _ _ _ _ _ _ [_, _, _, _, _, _, _, _, _, _, _, _, _, _, _, _, _, _, _, _, _, _, _, _, _, _, _, _, _, _, _, _, _, _, _, _, _, _, _, _, _, _, _, _, _, _, _, _, _, _, _, _, _, _, _, _, _, _, _, _, _, _, _, _, _, _, _, _, _, _, _, _, _, _, _, _, _, _, _, _, _, _, _, _, _, _, _, _, _, _, _, _, _, _, _, _, _] _
        refine ops_val (ex_extract rfl rfl) ?_
        refine ops_alloc ty59 H13 ?_
        intro w14 gk H14 hgk
        have hk : cr.length = 12 := thchart.len hR
        refine ops_store ty59 H14 0 rfl rfl rfl rfl hk (by rw [hk]; decide) (thchart.ones hR) ?_
        intro w15 H15
        have hpu : putAt [.int .i64 0, .slice none 0 0, .int .i64 0, .int .i64 0, .int .i64 0, .int .i64 0, .int .i64 0, .string .empty, .string .empty, .int .i64 0, .int .i64 0, .slice none 0 0] 0 cr = cr := putAt_all hk
        rw [hpu] at H15
        refine ops_val (ex_assign rfl) ?_
        refine ops_nil ?_
        change Run _ _ _ _ [_, _, _, _, _, _, _, _, _, _, _, _, _, _, _, _, _, _, _, _, _, _, _, _, _, _, _, _, _, _, _, _, _, _, _, _, _, _, _, _, _, _, _, _, _, _, _, _, _, _, _, _, _, _, _, _, _, _, _, _, _, _, _, _, _, _, _, _, _, _, _, _, _, _, _, _, _, _, _, _, _, _, _, _, _, _, _, _, _, _, _, _, _, _, _, _, _] _
        refine run_seq ?_
        refine run_seq ?_
        refine run_region ?_
        refine ops_val (ex_move rfl) ?_
        refine ops_test (ex_eql rfl rfl) (fun hp84 => ?_) (fun hp84 => ?_)
        · have he : errR thchart b = 0 := by omega
          have hone := one_got one_chart he
          refine ops_nil ?_
          change Run _ _ _ _ [_, _, _, _, _, _, _, _, _, _, _, _, _, _, _, _, _, _, _, _, _, _, _, _, _, _, _, _, _, _, _, _, _, _, _, _, _, _, _, _, _, _, _, _, _, _, _, _, _, _, _, _, _, _, _, _, _, _, _, _, _, _, _, _, _, _, _, _, _, _, _, _, _, _, _, _, _, _, _, _, _, _, _, _, _, _, _, _, _, _, _, _, _, _, _, _, _] _
          refine run_cond_true rfl ?_
          refine run_seq ?_
          refine run_region ?_
          refine ops_val (ex_loadN ty59 rfl (vs := cr) hk (H15.cells (i := 0) rfl)) ?_
          have hwk := chart_wr (gotR thchart b) cr _ (thchart.mono (thchart.to hR H15 (fun _ _ => by simp)) (fun _ _ => trivial))
          rw [hone] at hwk
          refine ops_call_wr (ex_call gf25 rfl) hwk ?_
          intro w16 ga ca sa qa qb qc qd Hd
          have H16 := H15.call0 Hd
          refine ops_val (ex_move rfl) ?_
          refine ops_val (ex_extract rfl rfl) ?_
          change Ops _ _ _ _ _ _ [_, _, _, _, _, _, _, _, _, _, _, _, _, _, _, _, _, _, _, _, _, _, _, _, _, _, _, _, _, _, _, _, _, _, _, _, _, _, _, _, _, _, _, _, _, _, _, _, _, _, _, _, _, _, _, _, _, _, _, _, _, _, _, _, _, _, _, _, _, _, _, _, _, _, _, _, _, _, _, _, _, _, _, _, _, _, _, _, _, _, _, _, _, _, _, _, _] _
          refine ops_val (ex_extract rfl rfl) ?_
          refine ops_val (ex_assign rfl) ?_
          refine ops_val (ex_assign rfl) ?_
          refine ops_nil ?_
          change Run _ _ _ _ [_, _, _, _, _, _, _, _, _, _, _, _, _, _, _, _, _, _, _, _, _, _, _, _, _, _, _, _, _, _, _, _, _, _, _, _, _, _, _, _, _, _, _, _, _, _, _, _, _, _, _, _, _, _, _, _, _, _, _, _, _, _, _, _, _, _, _, _, _, _, _, _, _, _, _, _, _, _, _, _, _, _, _, _, _, _, _, _, _, _, _, _, _, _, _, _, _] _
          refine run_seq ?_
          refine run_region ?_
          refine ops_val (ex_move rfl) ?_
          refine ops_true (ex_eql rfl rfl) (rfl) ?_
          refine ops_val (ex_move rfl) ?_
          change Ops _ _ _ _ _ _ [_, _, _, _, _, _, _, _, _, _, _, _, _, _, _, _, _, _, _, _, _, _, _, _, _, _, _, _, _, _, _, _, _, _, _, _, _, _, _, _, _, _, _, _, _, _, _, _, _, _, _, _, _, _, _, _, _, _, _, _, _, _, _, _, _, _, _, _, _, _, _, _, _, _, _, _, _, _, _, _, _, _, _, _, _, _, _, _, _, _, _, _, _, _, _, _, _] _
          refine ops_yes rfl ?_
          refine ops_val (ex_move rfl) ?_
          refine ops_yes rfl ?_
          refine ops_val (ex_move rfl) ?_
          change Ops _ _ _ _ _ _ [_, _, _, _, _, _, _, _, _, _, _, _, _, _, _, _, _, _, _, _, _, _, _, _, _, _, _, _, _, _, _, _, _, _, _, _, _, _, _, _, _, _, _, _, _, _, _, _, _, _, _, _, _, _, _, _, _, _, _, _, _, _, _, _, _, _, _, _, _, _, _, _, _, _, _, _, _, _, _, _, _, _, _, _, _, _, _, _, _, _, _, _, _, _, _, _, _] _
          refine ops_yes rfl ?_
          have hk2 := bytes_any (hd ga) AA b b ca c _ (H16.rd (i := 1) (o := ga) (xs := u8s b) (sp := sa) rfl (u8s_length1 _) (by decide)) (((hr.to0 HA).to0 H16)) (by omega) (by omega)
          rw [decide_eq_true rfl] at hk2
          refine ops_call_val (ex_call gf16 rfl) hk2 ?_
          intro w17 Hd
          have H17 := H16.call0 Hd
          refine ops_val (ex_pick_t rfl rfl) ?_
          refine ops_val (ex_assign rfl) ?_
          refine ops_nil ?_
          change Run _ _ _ _ [_, _, _, _, _, _, _, _, _, _, _, _, _, _, _, _, _, _, _, _, _, _, _, _, _, _, _, _, _, _, _, _, _, _, _, _, _, _, _, _, _, _, _, _, _, _, _, _, _, _, _, _, _, _, _, _, _, _, _, _, _, _, _, _, _, _, _, _, _, _, _, _, _, _, _, _, _, _, _, _, _, _, _, _, _, _, _, _, _, _, _, _, _, _, _, _, _] _
          refine run_ret ?_
          refine fin_ret1 rfl rfl ?_
          exact ⟨rfl, HA.call0 (H17.pick [] (by decide))⟩
        · skip
          refine ops_nil ?_
          change Run _ _ _ _ [_, _, _, _, _, _, _, _, _, _, _, _, _, _, _, _, _, _, _, _, _, _, _, _, _, _, _, _, _, _, _, _, _, _, _, _, _, _, _, _, _, _, _, _, _, _, _, _, _, _, _, _, _, _, _, _, _, _, _, _, _, _, _, _, _, _, _, _, _, _, _, _, _, _, _, _, _, _, _, _, _, _, _, _, _, _, _, _, _, _, _, _, _, _, _, _, _] _
          refine run_cond_false rfl ?_
          refine run_skip ?_
          refine run_seq ?_
          refine run_region ?_
          refine ops_val (ex_assign rfl) ?_
          refine ops_nil ?_
          change Run _ _ _ _ [_, _, _, _, _, _, _, _, _, _, _, _, _, _, _, _, _, _, _, _, _, _, _, _, _, _, _, _, _, _, _, _, _, _, _, _, _, _, _, _, _, _, _, _, _, _, _, _, _, _, _, _, _, _, _, _, _, _, _, _, _, _, _, _, _, _, _, _, _, _, _, _, _, _, _, _, _, _, _, _, _, _, _, _, _, _, _, _, _, _, _, _, _, _, _, _, _] _
          refine run_ret ?_
          refine fin_ret1 rfl rfl ?_
          exact ⟨rfl, HA.call0 (H15.pick [] (by decide))⟩
    · skip
      refine ops_nil ?_
      change Run _ _ _ _ [_, _, _, _, _, _, _, _, _, _, _, _, _, _, _, _, _, _, _, _, _, _, _, _, _, _, _, _, _, _, _, _, _, _, _, _, _, _, _, _, _, _, _, _, _, _, _, _, _, _, _, _, _, _, _, _, _, _, _, _, _, _, _, _, _, _, _, _, _, _, _, _, _, _, _, _, _, _, _, _, _, _, _, _, _, _, _, _, _, _, _, _, _, _, _, _, _] _
      refine run_cond_false rfl ?_
      refine run_skip ?_
      refine run_seq ?_
      refine run_region ?_
      refine ops_val (ex_move rfl) ?_
      replace HA := HA.call0 (H7.pick [] (by decide))
      refine ops_call_rd (ex_call gf22 rfl) (note_rd AA b c _ (hr.to0 HA) (by omega)) ?_
      intro w8 cr hR Hd
      replace HA := HA.call0 Hd
      have H8 := Hp.refl w8
      refine ops_val (ex_move rfl) ?_
      refine ops_val (ex_extract rfl rfl) ?_
      change Ops _ _ _ _ _ _ [_, _, _, _, _, _, _, _, _, _, _, _, _, _, _, _, _, _, _, _, _, _, _, _, _, _, _, _, _, _, _, _, _, _, _, _, _, _, _, _, _, _, _, _, _, _, _, _, _, _, _, _, _, _, _, _, _, _, _, _, _, _, _, _, _, _, _, _, _, _, _, _, _, _, _, _, _, _, _, _, _, _, _, _, _, _, _, _, _, _, _, _, _, _, _, _, _] _
      refine ops_val (ex_extract rfl rfl) ?_
      refine ops_alloc ty50 H8 ?_
      intro w9 gk H9 hgk
      have hk : cr.length = 16 := thnote.len hR
      refine ops_store ty50 H9 0 rfl rfl rfl rfl hk (by rw [hk]; decide) (thnote.ones hR) ?_
      intro w10 H10
      have hpu : putAt [.int .i64 0, .int .i64 0, .int .i64 0, .int .i64 0, .int .i64 0, .int .i64 0, .int .i64 0, .slice none 0 0, .int .i64 0, .slice none 0 0, .int .i64 0, .string .empty, .int .i64 0, .int .i64 0, .int .i64 0, .int .i64 0] 0 cr = cr := putAt_all hk
      rw [hpu] at H10
      refine ops_val (ex_assign rfl) ?_
      refine ops_nil ?_
      change Run _ _ _ _ [_, _, _, _, _, _, _, _, _, _, _, _, _, _, _, _, _, _, _, _, _, _, _, _, _, _, _, _, _, _, _, _, _, _, _, _, _, _, _, _, _, _, _, _, _, _, _, _, _, _, _, _, _, _, _, _, _, _, _, _, _, _, _, _, _, _, _, _, _, _, _, _, _, _, _, _, _, _, _, _, _, _, _, _, _, _, _, _, _, _, _, _, _, _, _, _, _] _
      refine run_seq ?_
      refine run_seq ?_
      refine run_region ?_
      refine ops_val (ex_move rfl) ?_
      refine ops_test (ex_eql rfl rfl) (fun hp64 => ?_) (fun hp64 => ?_)
      · have he : errR thnote b = 0 := by omega
        have hone := one_got one_note he
        refine ops_nil ?_
        change Run _ _ _ _ [_, _, _, _, _, _, _, _, _, _, _, _, _, _, _, _, _, _, _, _, _, _, _, _, _, _, _, _, _, _, _, _, _, _, _, _, _, _, _, _, _, _, _, _, _, _, _, _, _, _, _, _, _, _, _, _, _, _, _, _, _, _, _, _, _, _, _, _, _, _, _, _, _, _, _, _, _, _, _, _, _, _, _, _, _, _, _, _, _, _, _, _, _, _, _, _, _] _
        refine run_cond_true rfl ?_
        refine run_seq ?_
        refine run_region ?_
        refine ops_val (ex_loadN ty50 rfl (vs := cr) hk (H10.cells (i := 0) rfl)) ?_
        have hwk := note_wr (gotR thnote b) cr _ (thnote.mono (thnote.to hR H10 (fun _ _ => by simp)) (fun _ _ => trivial))
        rw [hone] at hwk
        refine ops_call_wr (ex_call gf20 rfl) hwk ?_
        intro w11 ga ca sa qa qb qc qd Hd
        have H11 := H10.call0 Hd
        refine ops_val (ex_move rfl) ?_
        refine ops_val (ex_extract rfl rfl) ?_
        change Ops _ _ _ _ _ _ [_, _, _, _, _, _, _, _, _, _, _, _, _, _, _, _, _, _, _, _, _, _, _, _, _, _, _, _, _, _, _, _, _, _, _, _, _, _, _, _, _, _, _, _, _, _, _, _, _, _, _, _, _, _, _, _, _, _, _, _, _, _, _, _, _, _, _, _, _, _, _, _, _, _, _, _, _, _, _, _, _, _, _, _, _, _, _, _, _, _, _, _, _, _, _, _, _] _
        refine ops_val (ex_extract rfl rfl) ?_
        refine ops_val (ex_assign rfl) ?_
        refine ops_val (ex_assign rfl) ?_
        refine ops_nil ?_
        change Run _ _ _ _ [_, _, _, _, _, _, _, _, _, _, _, _, _, _, _, _, _, _, _, _, _, _, _, _, _, _, _, _, _, _, _, _, _, _, _, _, _, _, _, _, _, _, _, _, _, _, _, _, _, _, _, _, _, _, _, _, _, _, _, _, _, _, _, _, _, _, _, _, _, _, _, _, _, _, _, _, _, _, _, _, _, _, _, _, _, _, _, _, _, _, _, _, _, _, _, _, _] _
        refine run_seq ?_
        refine run_region ?_
        refine ops_val (ex_move rfl) ?_
        refine ops_false (ex_neq rfl rfl) (by simp [errOf]) ?_
        refine ops_val (ex_move rfl) ?_
        change Ops _ _ _ _ _ _ [_, _, _, _, _, _, _, _, _, _, _, _, _, _, _, _, _, _, _, _, _, _, _, _, _, _, _, _, _, _, _, _, _, _, _, _, _, _, _, _, _, _, _, _, _, _, _, _, _, _, _, _, _, _, _, _, _, _, _, _, _, _, _, _, _, _, _, _, _, _, _, _, _, _, _, _, _, _, _, _, _, _, _, _, _, _, _, _, _, _, _, _, _, _, _, _, _] _
        refine ops_yes rfl ?_
        refine ops_val (ex_move rfl) ?_
        refine ops_yes rfl ?_
        refine ops_val (ex_move rfl) ?_
        change Ops _ _ _ _ _ _ [_, _, _, _, _, _, _, _, _, _, _, _, _, _, _, _, _, _, _, _, _, _, _, _, _, _, _, _, _, _, _, _, _, _, _, _, _, _, _, _, _, _, _, _, _, _, _, _, _, _, _, _, _, _, _, _, _, _, _, _, _, _, _, _, _, _, _, _, _, _, _, _, _, _, _, _, _, _, _, _, _, _, _, _, _, _, _, _, _, _, _, _, _, _, _, _, _] _
        refine ops_yes rfl ?_
        have hk2 := bytes_any (hd ga) AA b b ca c _ (H11.rd (i := 1) (o := ga) (xs := u8s b) (sp := sa) rfl (u8s_length1 _) (by decide)) (((hr.to0 HA).to0 H11)) (by omega) (by omega)
        rw [decide_eq_true rfl] at hk2
        refine ops_call_val (ex_call gf16 rfl) hk2 ?_
        intro w12 Hd
        have H12 := H11.call0 Hd
        refine ops_yes rfl ?_
        refine ops_val (ex_not rfl) ?_
        refine ops_val (ex_pick_f rfl rfl) ?_
        refine ops_nil ?_
        change Run _ _ _ _ [_, _, _, _, _, _, _, _, _, _, _, _, _, _, _, _, _, _, _, _, _, _, _, _, _, _, _, _, _, _, _, _, _, _, _, _, _, _, _, _, _, _, _, _, _, _, _, _, _, _, _, _, _, _, _, _, _, _, _, _, _, _, _, _, _, _, _, _, _, _, _, _, _, _, _, _, _, _, _, _, _, _, _, _, _, _, _, _, _, _, _, _, _, _, _, _, _] _
        refine run_cond_false rfl ?_
        refine run_skip ?_
        refine run_seq ?_
        refine run_region ?_
        refine ops_val (ex_move rfl) ?_
        replace HA := HA.call0 (H12.pick [] (by decide))
        refine ops_call_rd (ex_call gf28 rfl) (chart_rd AA b c _ (hr.to0 HA) (by omega)) ?_
        intro w13 cr hR Hd
        replace HA := HA.call0 Hd
        have H13 := Hp.refl w13
        refine ops_val (ex_move rfl) ?_
        refine ops_val (ex_extract rfl rfl) ?_
        change Ops _ _ _ _ _ _ [_, _, _, _, _, _, _, _, _, _, _, _, _, _, _, _, _, _, _, _, _, _, _, _, _, _, _, _, _, _, _, _, _, _, _, _, _, _, _, _, _, _, _, _, _, _, _, _, _, _, _, _, _, _, _, _, _, _, _, _, _, _, _, _, _, _, _, _, _, _, _, _, _, _, _, _, _, _, _, _, _, _, _, _, _, _, _, _, _, _, _, _, _, _, _, _, _] _
        refine ops_val (ex_extract rfl rfl) ?_
        refine ops_alloc ty59 H13 ?_
        intro w14 gk H14 hgk
        have hk : cr.length = 12 := thchart.len hR
        refine ops_store ty59 H14 0 rfl rfl rfl rfl hk (by rw [hk]; decide) (thchart.ones hR) ?_
        intro w15 H15
        have hpu : putAt [.int .i64 0, .slice none 0 0, .int .i64 0, .int .i64 0, .int .i64 0, .int .i64 0, .int .i64 0, .string .empty, .string .empty, .int .i64 0, .int .i64 0, .slice none 0 0] 0 cr = cr := putAt_all hk
        rw [hpu] at H15
        refine ops_val (ex_assign rfl) ?_
        refine ops_nil ?_
        change Run _ _ _ _ [_, _, _, _, _, _, _, _, _, _, _, _, _, _, _, _, _, _, _, _, _, _, _, _, _, _, _, _, _, _, _, _, _, _, _, _, _, _, _, _, _, _, _, _, _, _, _, _, _, _, _, _, _, _, _, _, _, _, _, _, _, _, _, _, _, _, _, _, _, _, _, _, _, _, _, _, _, _, _, _, _, _, _, _, _, _, _, _, _, _, _, _, _, _, _, _, _] _
        refine run_seq ?_
        refine run_seq ?_
        refine run_region ?_
        refine ops_val (ex_move rfl) ?_
        refine ops_test (ex_eql rfl rfl) (fun hp84 => ?_) (fun hp84 => ?_)
        · have he : errR thchart b = 0 := by omega
          have hone := one_got one_chart he
          refine ops_nil ?_
          change Run _ _ _ _ [_, _, _, _, _, _, _, _, _, _, _, _, _, _, _, _, _, _, _, _, _, _, _, _, _, _, _, _, _, _, _, _, _, _, _, _, _, _, _, _, _, _, _, _, _, _, _, _, _, _, _, _, _, _, _, _, _, _, _, _, _, _, _, _, _, _, _, _, _, _, _, _, _, _, _, _, _, _, _, _, _, _, _, _, _, _, _, _, _, _, _, _, _, _, _, _, _] _
          refine run_cond_true rfl ?_
          refine run_seq ?_
          refine run_region ?_
          refine ops_val (ex_loadN ty59 rfl (vs := cr) hk (H15.cells (i := 0) rfl)) ?_
          have hwk := chart_wr (gotR thchart b) cr _ (thchart.mono (thchart.to hR H15 (fun _ _ => by simp)) (fun _ _ => trivial))
          rw [hone] at hwk
          refine ops_call_wr (ex_call gf25 rfl) hwk ?_
          intro w16 ga ca sa qa qb qc qd Hd
          have H16 := H15.call0 Hd
          refine ops_val (ex_move rfl) ?_
          refine ops_val (ex_extract rfl rfl) ?_
          change Ops _ _ _ _ _ _ [_, _, _, _, _, _, _, _, _, _, _, _, _, _, _, _, _, _, _, _, _, _, _, _, _, _, _, _, _, _, _, _, _, _, _, _, _, _, _, _, _, _, _, _, _, _, _, _, _, _, _, _, _, _, _, _, _, _, _, _, _, _, _, _, _, _, _, _, _, _, _, _, _, _, _, _, _, _, _, _, _, _, _, _, _, _, _, _, _, _, _, _, _, _, _, _, _] _
          refine ops_val (ex_extract rfl rfl) ?_
          refine ops_val (ex_assign rfl) ?_
          refine ops_val (ex_assign rfl) ?_
          refine ops_nil ?_
          change Run _ _ _ _ [_, _, _, _, _, _, _, _, _, _, _, _, _, _, _, _, _, _, _, _, _, _, _, _, _, _, _, _, _, _, _, _, _, _, _, _, _, _, _, _, _, _, _, _, _, _, _, _, _, _, _, _, _, _, _, _, _, _, _, _, _, _, _, _, _, _, _, _, _, _, _, _, _, _, _, _, _, _, _, _, _, _, _, _, _, _, _, _, _, _, _, _, _, _, _, _, _] _
          refine run_seq ?_
          refine run_region ?_
          refine ops_val (ex_move rfl) ?_
          refine ops_true (ex_eql rfl rfl) (rfl) ?_
          refine ops_val (ex_move rfl) ?_
          change Ops _ _ _ _ _ _ [_, _, _, _, _, _, _, _, _, _, _, _, _, _, _, _, _, _, _, _, _, _, _, _, _, _, _, _, _, _, _, _, _, _, _, _, _, _, _, _, _, _, _, _, _, _, _, _, _, _, _, _, _, _, _, _, _, _, _, _, _, _, _, _, _, _, _, _, _, _, _, _, _, _, _, _, _, _, _, _, _, _, _, _, _, _, _, _, _, _, _, _, _, _, _, _, _] _
          refine ops_yes rfl ?_
          refine ops_val (ex_move rfl) ?_
          refine ops_yes rfl ?_
          refine ops_val (ex_move rfl) ?_
          change Ops _ _ _ _ _ _ [_, _, _, _, _, _, _, _, _, _, _, _, _, _, _, _, _, _, _, _, _, _, _, _, _, _, _, _, _, _, _, _, _, _, _, _, _, _, _, _, _, _, _, _, _, _, _, _, _, _, _, _, _, _, _, _, _, _, _, _, _, _, _, _, _, _, _, _, _, _, _, _, _, _, _, _, _, _, _, _, _, _, _, _, _, _, _, _, _, _, _, _, _, _, _, _, _] _
          refine ops_yes rfl ?_
          have hk2 := bytes_any (hd ga) AA b b ca c _ (H16.rd (i := 1) (o := ga) (xs := u8s b) (sp := sa) rfl (u8s_length1 _) (by decide)) (((hr.to0 HA).to0 H16)) (by omega) (by omega)
          rw [decide_eq_true rfl] at hk2
          refine ops_call_val (ex_call gf16 rfl) hk2 ?_
          intro w17 Hd
          have H17 := H16.call0 Hd
          refine ops_val (ex_pick_t rfl rfl) ?_
          refine ops_val (ex_assign rfl) ?_
          refine ops_nil ?_
          change Run _ _ _ _ [_, _, _, _, _, _, _, _, _, _, _, _, _, _, _, _, _, _, _, _, _, _, _, _, _, _, _, _, _, _, _, _, _, _, _, _, _, _, _, _, _, _, _, _, _, _, _, _, _, _, _, _, _, _, _, _, _, _, _, _, _, _, _, _, _, _, _, _, _, _, _, _, _, _, _, _, _, _, _, _, _, _, _, _, _, _, _, _, _, _, _, _, _, _, _, _, _] _
          refine run_ret ?_
          refine fin_ret1 rfl rfl ?_
          exact ⟨rfl, HA.call0 (H17.pick [] (by decide))⟩
        · skip
          refine ops_nil ?_
          change Run _ _ _ _ [_, _, _, _, _, _, _, _, _, _, _, _, _, _, _, _, _, _, _, _, _, _, _, _, _, _, _, _, _, _, _, _, _, _, _, _, _, _, _, _, _, _, _, _, _, _, _, _, _, _, _, _, _, _, _, _, _, _, _, _, _, _, _, _, _, _, _, _, _, _, _, _, _, _, _, _, _, _, _, _, _, _, _, _, _, _, _, _, _, _, _, _, _, _, _, _, _] _
          refine run_cond_false rfl ?_
          refine run_skip ?_
          refine run_seq ?_
          refine run_region ?_
          refine ops_val (ex_assign rfl) ?_
          refine ops_nil ?_
          change Run _ _ _ _ [_, _, _, _, _, _, _, _, _, _, _, _, _, _, _, _, _, _, _, _, _, _, _, _, _, _, _, _, _, _, _, _, _, _, _, _, _, _, _, _, _, _, _, _, _, _, _, _, _, _, _, _, _, _, _, _, _, _, _, _, _, _, _, _, _, _, _, _, _, _, _, _, _, _, _, _, _, _, _, _, _, _, _, _, _, _, _, _, _, _, _, _, _, _, _, _, _] _
          refine run_ret ?_
          refine fin_ret1 rfl rfl ?_
          exact ⟨rfl, HA.call0 (H15.pick [] (by decide))⟩
      · skip
        refine ops_nil ?_
        change Run _ _ _ _ [_, _, _, _, _, _, _, _, _, _, _, _, _, _, _, _, _, _, _, _, _, _, _, _, _, _, _, _, _, _, _, _, _, _, _, _, _, _, _, _, _, _, _, _, _, _, _, _, _, _, _, _, _, _, _, _, _, _, _, _, _, _, _, _, _, _, _, _, _, _, _, _, _, _, _, _, _, _, _, _, _, _, _, _, _, _, _, _, _, _, _, _, _, _, _, _, _] _
        refine run_cond_false rfl ?_
        refine run_skip ?_
        refine run_seq ?_
        refine run_region ?_
        refine ops_val (ex_move rfl) ?_
        replace HA := HA.call0 (H10.pick [] (by decide))
        refine ops_call_rd (ex_call gf28 rfl) (chart_rd AA b c _ (hr.to0 HA) (by omega)) ?_
        intro w11 cr hR Hd
        replace HA := HA.call0 Hd
        have H11 := Hp.refl w11
        refine ops_val (ex_move rfl) ?_
        refine ops_val (ex_extract rfl rfl) ?_
        change Ops _ _ _ _ _ _ [_, _, _, _, _, _, _, _, _, _, _, _, _, _, _, _, _, _, _, _, _, _, _, _, _, _, _, _, _, _, _, _, _, _, _, _, _, _, _, _, _, _, _, _, _, _, _, _, _, _, _, _, _, _, _, _, _, _, _, _, _, _, _, _, _, _, _, _, _, _, _, _, _, _, _, _, _, _, _, _, _, _, _, _, _, _, _, _, _, _, _, _, _, _, _, _, _] _
        refine ops_val (ex_extract rfl rfl) ?_
        refine ops_alloc ty59 H11 ?_
        intro w12 gk H12 hgk
        have hk : cr.length = 12 := thchart.len hR
        refine ops_store ty59 H12 0 rfl rfl rfl rfl hk (by rw [hk]; decide) (thchart.ones hR) ?_
        intro w13 H13
        have hpu : putAt [.int .i64 0, .slice none 0 0, .int .i64 0, .int .i64 0, .int .i64 0, .int .i64 0, .int .i64 0, .string .empty, .string .empty, .int .i64 0, .int .i64 0, .slice none 0 0] 0 cr = cr := putAt_all hk
        rw [hpu] at H13
        refine ops_val (ex_assign rfl) ?_
        refine ops_nil ?_
        change Run _ _ _ _ [_, _, _, _, _, _, _, _, _, _, _, _, _, _, _, _, _, _, _, _, _, _, _, _, _, _, _, _, _, _, _, _, _, _, _, _, _, _, _, _, _, _, _, _, _, _, _, _, _, _, _, _, _, _, _, _, _, _, _, _, _, _, _, _, _, _, _, _, _, _, _, _, _, _, _, _, _, _, _, _, _, _, _, _, _, _, _, _, _, _, _, _, _, _, _, _, _] _
        refine run_seq ?_
        refine run_seq ?_
        refine run_region ?_
        refine ops_val (ex_move rfl) ?_
        refine ops_test (ex_eql rfl rfl) (fun hp84 => ?_) (fun hp84 => ?_)
        · have he : errR thchart b = 0 := by omega
          have hone := one_got one_chart he
          refine ops_nil ?_
          change Run _ _ _ _ [_, _, _, _, _, _, _, _, _, _, _, _, _, _, _, _, _, _, _, _, _, _, _, _, _, _, _, _, _, _, _, _, _, _, _, _, _, _, _, _, _, _, _, _, _, _, _, _, _, _, _, _, _, _, _, _, _, _, _, _, _, _, _, _, _, _, _, _, _, _, _, _, _, _, _, _, _, _, _, _, _, _, _, _, _, _, _, _, _, _, _, _, _, _, _, _, _] _
          refine run_cond_true rfl ?_
          refine run_seq ?_
          refine run_region ?_
          refine ops_val (ex_loadN ty59 rfl (vs := cr) hk (H13.cells (i := 0) rfl)) ?_
          have hwk := chart_wr (gotR thchart b) cr _ (thchart.mono (thchart.to hR H13 (fun _ _ => by simp)) (fun _ _ => trivial))
          rw [hone] at hwk
          refine ops_call_wr (ex_call gf25 rfl) hwk ?_
          intro w14 ga ca sa qa qb qc qd Hd
          have H14 := H13.call0 Hd
          refine ops_val (ex_move rfl) ?_
          refine ops_val (ex_extract rfl rfl) ?_
          change Ops _ _ _ _ _ _ [_, _, _, _, _, _, _, _, _, _, _, _, _, _, _, _, _, _, _, _, _, _, _, _, _, _, _, _, _, _, _, _, _, _, _, _, _, _, _, _, _, _, _, _, _, _, _, _, _, _, _, _, _, _, _, _, _, _, _, _, _, _, _, _, _, _, _, _, _, _, _, _, _, _, _, _, _, _, _, _, _, _, _, _, _, _, _, _, _, _, _, _, _, _, _, _, _] _
          refine ops_val (ex_extract rfl rfl) ?_
          refine ops_val (ex_assign rfl) ?_
          refine ops_val (ex_assign rfl) ?_
          refine ops_nil ?_
          change Run _ _ _ _ [_, _, _, _, _, _, _, _, _, _, _, _, _, _, _, _, _, _, _, _, _, _, _, _, _, _, _, _, _, _, _, _, _, _, _, _, _, _, _, _, _, _, _, _, _, _, _, _, _, _, _, _, _, _, _, _, _, _, _, _, _, _, _, _, _, _, _, _, _, _, _, _, _, _, _, _, _, _, _, _, _, _, _, _, _, _, _, _, _, _, _, _, _, _, _, _, _] _
          refine run_seq ?_
          refine run_region ?_
          refine ops_val (ex_move rfl) ?_
          refine ops_true (ex_eql rfl rfl) (rfl) ?_
          refine ops_val (ex_move rfl) ?_
          change Ops _ _ _ _ _ _ [_, _, _, _, _, _, _, _, _, _, _, _, _, _, _, _, _, _, _, _, _, _, _, _, _, _, _, _, _, _, _, _, _, _, _, _, _, _, _, _, _, _, _, _, _, _, _, _, _, _, _, _, _, _, _, _, _, _, _, _, _, _, _, _, _, _, _, _, _, _, _, _, _, _, _, _, _, _, _, _, _, _, _, _, _, _, _, _, _, _, _, _, _, _, _, _, _] _
          refine ops_yes rfl ?_
          refine ops_val (ex_move rfl) ?_
          refine ops_yes rfl ?_
          refine ops_val (ex_move rfl) ?_
          change Ops _ _ _ _ _ _ [_, _, _, _, _, _, _, _, _, _, _, _, _, _, _, _, _, _, _, _, _, _, _, _, _, _, _, _, _, _, _, _, _, _, _, _, _, _, _, _, _, _, _, _, _, _, _, _, _, _, _, _, _, _, _, _, _, _, _, _, _, _, _, _, _, _, _, _, _, _, _, _, _, _, _, _, _, _, _, _, _, _, _, _, _, _, _, _, _, _, _, _, _, _, _, _, _] _
          refine ops_yes rfl ?_
          have hk2 := bytes_any (hd ga) AA b b ca c _ (H14.rd (i := 1) (o := ga) (xs := u8s b) (sp := sa) rfl (u8s_length1 _) (by decide)) (((hr.to0 HA).to0 H14)) (by omega) (by omega)
          rw [decide_eq_true rfl] at hk2
          refine ops_call_val (ex_call gf16 rfl) hk2 ?_
          intro w15 Hd
          have H15 := H14.call0 Hd
          refine ops_val (ex_pick_t rfl rfl) ?_
          refine ops_val (ex_assign rfl) ?_
          refine ops_nil ?_
          change Run _ _ _ _ [_, _, _, _, _, _, _, _, _, _, _, _, _, _, _, _, _, _, _, _, _, _, _, _, _, _, _, _, _, _, _, _, _, _, _, _, _, _, _, _, _, _, _, _, _, _, _, _, _, _, _, _, _, _, _, _, _, _, _, _, _, _, _, _, _, _, _, _, _, _, _, _, _, _, _, _, _, _, _, _, _, _, _, _, _, _, _, _, _, _, _, _, _, _, _, _, _] _
          refine run_ret ?_
          refine fin_ret1 rfl rfl ?_
          exact ⟨rfl, HA.call0 (H15.pick [] (by decide))⟩
        · skip
          refine ops_nil ?_
          change Run _ _ _ _ [_, _, _, _, _, _, _, _, _, _, _, _, _, _, _, _, _, _, _, _, _, _, _, _, _, _, _, _, _, _, _, _, _, _, _, _, _, _, _, _, _, _, _, _, _, _, _, _, _, _, _, _, _, _, _, _, _, _, _, _, _, _, _, _, _, _, _, _, _, _, _, _, _, _, _, _, _, _, _, _, _, _, _, _, _, _, _, _, _, _, _, _, _, _, _, _, _] _
          refine run_cond_false rfl ?_
          refine run_skip ?_
          refine run_seq ?_
          refine run_region ?_
          refine ops_val (ex_assign rfl) ?_
          refine ops_nil ?_
          change Run _ _ _ _ [_, _, _, _, _, _, _, _, _, _, _, _, _, _, _, _, _, _, _, _, _, _, _, _, _, _, _, _, _, _, _, _, _, _, _, _, _, _, _, _, _, _, _, _, _, _, _, _, _, _, _, _, _, _, _, _, _, _, _, _, _, _, _, _, _, _, _, _, _, _, _, _, _, _, _, _, _, _, _, _, _, _, _, _, _, _, _, _, _, _, _, _, _, _, _, _, _] _
          refine run_ret ?_
          refine fin_ret1 rfl rfl ?_
          exact ⟨rfl, HA.call0 (H13.pick [] (by decide))⟩
end Go.Proofs.Ytoeobicpdeklaaa
