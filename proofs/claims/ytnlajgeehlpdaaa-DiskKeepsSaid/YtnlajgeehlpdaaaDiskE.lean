/- Walks of layer 2, printed by wip/gen/codec.py. -/
import Derived.Test.YtnlajgeehlpdaaaDiskD
namespace Go.Proofs.Ytnlajgeehlpdaaa
open Go Go.RowKit
set_option linter.unusedVariables false
attribute [local irreducible] Still Ops Does Cd
set_option maxRecDepth 100000 in
set_option maxHeartbeats 4000000 in
theorem data_any (o : OpV) (w0 : World) :
    Does Try.prog 22 #[.agg (OpV.cells o).toArray] w0 (fun r w' => Own w0 w' r (dataOf o.m o.x)) := by
  refine does_of Try.func22 Try.ntmps22 rfl ?_
  change Run _ _ _ _ [.agg (OpV.cells o).toArray, undef, undef, undef, undef, undef, undef, undef, undef, undef, undef, undef, undef, undef, undef, undef, undef, undef, undef, undef, undef, undef, undef] _
  have H := Hp.refl w0
  refine run_seq ?_
  refine run_region ?_
  refine ops_box rfl rfl H ?_
  intro w1 gb0 H1 hgb0
  refine ops_val (ex_assign rfl) ?_
  refine ops_nil ?_
  change Run _ _ _ _ [_, _, _, _, _, _, _, _, _, _, _, _, _, _, _, _, _, _, _, _, _, _, _] _
  refine run_seq ?_
  refine run_region ?_
  refine ops_val (ex_fieldAddr fl45_3 rfl) ?_
  refine ops_val (ex_load ty5 rfl (H1.cell (i := 0) rfl rfl)) ?_
  refine ops_call (ex_call gf14 rfl) (block64_any o.x _) ?_
  rintro _ w2 ⟨gb, rfl, Hd⟩
  have H2 := H1.call0 Hd
  obtain ⟨g1, hg1e⟩ : ∃ g, g = some gb := ⟨_, rfl⟩
  rw [← hg1e] at H2
  rw [← hg1e]
  refine ops_val (ex_assign rfl) ?_
  refine ops_nil ?_
  change Run _ _ _ _ [_, _, _, _, _, _, _, _, _, _, _, _, _, _, _, _, _, _, _, _, _, _, _] _
  refine run_seq ?_
  refine run_seq ?_
  refine run_region ?_
  refine ops_val (ex_fieldAddr fl45_2 rfl) ?_
  refine ops_val (ex_load ty3 rfl (H2.cell (i := 0) rfl rfl)) ?_
  refine ops_test (ex_neq rfl rfl) (fun hp9 => ?_) (fun hp9 => ?_)
  · skip
    refine ops_nil ?_
    change Run _ _ _ _ [_, _, _, _, _, _, _, _, _, _, _, _, _, _, _, _, _, _, _, _, _, _, _] _
    refine run_cond_true rfl ?_
    refine run_seq ?_
    refine run_region ?_
    refine ops_val (ex_move rfl) ?_
    refine ops_val (ex_move rfl) ?_
    have hrb := H2.rd (i := 1) (o := g1) (xs := u8s (blockOf o.x)) (sp := []) (n := 64) (sz := 1) (by rw [List.append_nil]; rfl) (by rw [u8s_length, blockOf_length]) (by decide)
    refine ops_append_new Try.underlying33 ty5 H2 rfl hrb rfl hrb (by decide) (by decide) (by decide) (by decide) ?_
    intro w3 g2 c2 s2 H3 hcp2 hmc2
    refine ops_val (ex_move rfl) ?_
    change Ops _ _ _ _ _ _ [_, _, _, _, _, _, _, _, _, _, _, _, _, _, _, _, _, _, _, _, _, _, _] _
    have hrb := H3.rd (i := 1) (o := g1) (xs := u8s (blockOf o.x)) (sp := []) (n := 64) (sz := 1) (by rw [List.append_nil]; rfl) (by rw [u8s_length, blockOf_length]) (by decide)
    refine ops_append Try.underlying33 ty5 (by decide) H3 2 (g := some g2) (xs := u8s (blockOf o.x) ++ u8s (blockOf o.x)) (sp := s2) rfl rfl (by rw [List.length_append, u8s_length, blockOf_length]) hcp2 hmc2 (by simp) rfl hrb (u8s_one' _) (by decide) (by decide) (by decide) ?_
    intro w4 g3 c3 s3 H4 hcp3 hmc3 hg3
    refine ops_val (ex_assign rfl) ?_
    refine ops_nil ?_
    change Run _ _ _ _ [_, _, _, _, _, _, _, _, _, _, _, _, _, _, _, _, _, _, _, _, _, _, _] _
    refine run_region ?_
    refine ops_val (ex_move rfl) ?_
    refine ops_val (ex_fieldAddr fl45_2 rfl) ?_
    refine ops_val (ex_load ty3 rfl (H4.cell (i := 0) rfl rfl)) ?_
    obtain ⟨u, hu⟩ := u64_nat o.m
    refine ops_val (ex_conv Try.underlying30 Try.underlying3 rfl hu) ?_
    change Ops _ _ _ _ _ _ [_, _, _, _, _, _, _, _, _, _, _, _, _, _, _, _, _, _, _, _, _, _, _] _
    refine ops_val (ex_rem rfl rfl (by omega) (tmodN u 130)) ?_
    refine ops_val (ex_conv Try.underlying3 Try.underlying30 rfl (IntWalk.i64_in _ (by omega))) ?_
    refine ops_val (ex_cutHi Try.underlying33 ty5 rfl rfl (by omega)) ?_
    refine ops_val (ex_assign rfl) ?_
    refine ops_nil ?_
    change Run _ _ _ _ [_, _, _, _, _, _, _, _, _, _, _, _, _, _, _, _, _, _, _, _, _, _, _] _
    refine run_seq ?_
    refine run_region ?_
    refine ops_val (ex_move rfl) ?_
    refine ops_val (ex_assign rfl) ?_
    refine ops_nil ?_
    change Run _ _ _ _ [_, _, _, _, _, _, _, _, _, _, _, _, _, _, _, _, _, _, _, _, _, _, _] _
    refine run_ret ?_
    refine fin_ret1 rfl rfl ?_
    have hd : dataOf o.m o.x = ((blockOf o.x ++ blockOf o.x) ++ blockOf o.x).take (u % 130) := by
      unfold dataOf
      rw [if_neg (by omega), hu]
      rfl
    have hl : (dataOf o.m o.x).length = u % 130 := by
      rw [hd, List.length_take, List.length_append, List.length_append, blockOf_length]; omega
    refine ⟨g3, c3, u8s (((blockOf o.x ++ blockOf o.x) ++ blockOf o.x).drop (u % 130)) ++ s3, ?_, by omega, ?_, hg3, ?_⟩
    · rw [hl]; rfl
    · rw [hd, ← List.append_assoc, ← u8s_append, List.take_append_drop, u8s_append, u8s_append]; exact hcp3
    · rw [hd, ← List.append_assoc, ← u8s_append, List.take_append_drop, u8s_append, u8s_append]; exact H4.pick [2] (by decide)
  · skip
    refine ops_nil ?_
    change Run _ _ _ _ [_, _, _, _, _, _, _, _, _, _, _, _, _, _, _, _, _, _, _, _, _, _, _] _
    refine run_cond_false rfl ?_
    refine run_skip ?_
    refine run_seq ?_
    refine run_region ?_
    refine ops_val (ex_move rfl) ?_
    refine ops_val (ex_assign rfl) ?_
    refine ops_nil ?_
    change Run _ _ _ _ [_, _, _, _, _, _, _, _, _, _, _, _, _, _, _, _, _, _, _, _, _, _, _] _
    refine run_ret ?_
    refine fin_ret1 rfl rfl ?_
    have hd : dataOf o.m o.x = blockOf o.x := by unfold dataOf; rw [if_pos (by omega)]
    rw [hd]
    exact ⟨g1, 64, [], by rw [blockOf_length], by rw [blockOf_length]; exact Nat.le_refl _, by rw [List.append_nil, u8s_length, blockOf_length]; exact Nat.le_refl _, (by rw [hg1e]; intro h; cases h), by rw [List.append_nil]; exact H2.pick [1] (by decide)⟩
set_option maxRecDepth 100000 in
set_option maxHeartbeats 4000000 in
theorem ran_any (bk : Int) (A : Option Addr) (s : List OpV) (sc : Nat) (w0 : World) (hs : ScOk w0 A s) :
    Does Try.prog 8 #[.int .i64 bk, .slice A s.length sc] w0 (fun r w' => ∃ gd gk gw cw sp D, r = .pointer (some ⟨gd, 0, none⟩) ∧ DOk D gw cw sp ∧ D.kept.length ≤ 40 ∧ D.wait.length ≤ s.length ∧ Hp w0 w' [] (dRows gd gk gw cw sp D)) := by
  refine does_of Try.func8 Try.ntmps8 rfl ?_
  change Run _ _ _ _ [.int .i64 bk, .slice A s.length sc, undef, undef, undef, undef, undef, undef, undef, undef, undef, undef, undef, undef, undef, undef, undef, undef, undef, undef, undef, undef, undef, undef, undef, undef, undef, undef, undef, undef, undef, undef, undef, undef, undef, undef, undef, undef, undef, undef, undef, undef, undef, undef, undef, undef, undef, undef, undef, undef, undef, undef, undef, undef, undef, undef, undef, undef, undef, undef, undef, undef, undef, undef, undef, undef, undef] _
  have H := Hp.refl w0
  refine run_seq ?_
  refine run_region ?_
  refine ops_val (ex_assign rfl) ?_
  refine ops_nil ?_
  change Run _ _ _ _ [_, _, _, _, _, _, _, _, _, _, _, _, _, _, _, _, _, _, _, _, _, _, _, _, _, _, _, _, _, _, _, _, _, _, _, _, _, _, _, _, _, _, _, _, _, _, _, _, _, _, _, _, _, _, _, _, _, _, _, _, _, _, _, _, _, _, _] _
  refine run_seq ?_
  refine run_region ?_
  refine ops_val (ex_move rfl) ?_
  obtain ⟨u, hu⟩ := u64_nat bk
  refine ops_val (ex_conv Try.underlying30 Try.underlying3 rfl hu) ?_
  refine ops_val (ex_rem rfl rfl (by omega) (tmodN u 40)) ?_
  refine ops_val (ex_conv Try.underlying3 Try.underlying30 rfl (IntWalk.i64_in _ (by omega))) ?_
  change Ops _ _ _ _ _ _ [_, _, _, _, _, _, _, _, _, _, _, _, _, _, _, _, _, _, _, _, _, _, _, _, _, _, _, _, _, _, _, _, _, _, _, _, _, _, _, _, _, _, _, _, _, _, _, _, _, _, _, _, _, _, _, _, _, _, _, _, _, _, _, _, _, _, _] _
  refine ops_val (ex_add rfl rfl ((IntWalk.i64_in _ (by omega)).trans (show (1 : Int) + ((u % 40 : Nat) : Int) = ((1 + u % 40 : Nat) : Int) by omega))) ?_
  refine ops_call (ex_call gf25 rfl) (newD_any (1 + u % 40) _ (by omega) (by omega)) ?_
  rintro _ w1 ⟨gd, gk, rfl, Hd⟩
  have H1 := (H.call0 Hd).pick [0, 1, 2] (by decide)
  have hO := newOk (n := 1 + u % 40) (by omega) (by omega)
  obtain ⟨m, hm⟩ : ∃ m, 1 + u % 40 = m := ⟨_, rfl⟩
  rw [hm] at H1 hO
  refine ops_val (ex_move rfl) ?_
  refine ops_val (ex_extract rfl rfl) ?_
  change Ops _ _ _ _ _ _ [_, _, _, _, _, _, _, _, _, _, _, _, _, _, _, _, _, _, _, _, _, _, _, _, _, _, _, _, _, _, _, _, _, _, _, _, _, _, _, _, _, _, _, _, _, _, _, _, _, _, _, _, _, _, _, _, _, _, _, _, _, _, _, _, _, _, _] _
  refine ops_val (ex_extract rfl rfl) ?_
  refine ops_val (ex_assign rfl) ?_
  refine ops_val (ex_assign rfl) ?_
  refine ops_nil ?_
  change Run _ _ _ _ [_, _, _, _, _, _, _, _, _, _, _, _, _, _, _, _, _, _, _, _, _, _, _, _, _, _, _, _, _, _, _, _, _, _, _, _, _, _, _, _, _, _, _, _, _, _, _, _, _, _, _, _, _, _, _, _, _, _, _, _, _, _, _, _, _, _, _] _
  refine run_seq ?_
  refine run_seq ?_
  refine run_region ?_
  refine ops_val (ex_assign rfl) ?_
  refine ops_nil ?_
  change Run _ _ _ _ [_, _, _, _, _, _, _, _, _, _, _, _, _, _, _, _, _, _, _, _, _, _, _, _, _, _, _, _, _, _, _, _, _, _, _, _, _, _, _, _, _, _, _, _, _, _, _, _, _, _, _, _, _, _, _, _, _, _, _, _, _, _, _, _, _, _, _] _
  refine run_block ?_
  refine run_loop (fun n l w => ∃ (q : Nat) (y : Int) (gw : Option Nat) (cw : Nat) (sp : List Value) (D : Dk), s.length - q = n ∧ Fits [none, some (.slice A s.length sc), none, none, none, some (.pointer (some ⟨gd, 0, none⟩)), none, some (.int .i64 y), none, none, none, none, none, none, none, none, none, none, none, none, none, none, none, none, none, none, none, none, none, none, none, none, none, none, none, none, none, none, none, none, none, none, none, none, none, none, none, none, none, none, none, none, none, none, none, none, none, none, none, none, none, none, none, none, none, none, none] l ∧ y = q ∧ q ≤ s.length ∧ DOk D gw cw sp ∧ D.wait.length ≤ q ∧ D.kept.length = m ∧ Hp w0 w [] (dRows gd gk gw cw sp D)) (s.length) ?_ ?_
  · exact ⟨0, _, none, 0, [], ⟨List.replicate m zero64, [], false, 0, m, []⟩, rfl, (fn (fs (fn (fn (fn (fs (fn (fs (fn (fn (fn (fn (fn (fn (fn (fn (fn (fn (fn (fn (fn (fn (fn (fn (fn (fn (fn (fn (fn (fn (fn (fn (fn (fn (fn (fn (fn (fn (fn (fn (fn (fn (fn (fn (fn (fn (fn (fn (fn (fn (fn (fn (fn (fn (fn (fn (fn (fn (fn (fn (fn (fn (fn (fn (fn (fn (fn f0))))))))))))))))))))))))))))))))))))))))))))))))))))))))))))))))))), rfl, Nat.zero_le _, hO, Nat.le_refl _, by simp, H1⟩
  · rintro n l w2 ⟨q, y, gw, cw, sp, D, rfl, hfit, rfl, hq, hO, hwq, hkm, H2⟩
    obtain ⟨j, rfl⟩ := hfit.open
    change Run _ _ _ _ [_, _, _, _, _, _, _, _, _, _, _, _, _, _, _, _, _, _, _, _, _, _, _, _, _, _, _, _, _, _, _, _, _, _, _, _, _, _, _, _, _, _, _, _, _, _, _, _, _, _, _, _, _, _, _, _, _, _, _, _, _, _, _, _, _, _, _] _
    clear hfit
    refine run_seq ?_
    refine run_seq ?_
    refine run_region ?_
    refine ops_val (ex_move rfl) ?_
    refine ops_true (ex_neq_nil_ptr Try.underlying24 rfl) (by simp) ?_
    refine ops_val (ex_move rfl) ?_
    change Ops _ _ _ _ _ _ [_, _, _, _, _, _, _, _, _, _, _, _, _, _, _, _, _, _, _, _, _, _, _, _, _, _, _, _, _, _, _, _, _, _, _, _, _, _, _, _, _, _, _, _, _, _, _, _, _, _, _, _, _, _, _, _, _, _, _, _, _, _, _, _, _, _, _] _
    refine ops_yes rfl ?_
    refine ops_val (ex_move rfl) ?_
    refine ops_yes rfl ?_
    refine ops_val (ex_move rfl) ?_
    change Ops _ _ _ _ _ _ [_, _, _, _, _, _, _, _, _, _, _, _, _, _, _, _, _, _, _, _, _, _, _, _, _, _, _, _, _, _, _, _, _, _, _, _, _, _, _, _, _, _, _, _, _, _, _, _, _, _, _, _, _, _, _, _, _, _, _, _, _, _, _, _, _, _, _] _
    refine ops_yes rfl ?_
    refine ops_val (ex_len_slice Try.underlying22 rfl) ?_
    refine ops_yes rfl ?_
    refine ops_test (ex_lss rfl rfl) (fun hp24 => ?_) (fun hp24 => ?_)
    · have hql : q < s.length := by omega
      have hsm := hs.most
      have hwm : D.wait.length ≤ 2932000000000 := by omega
      obtain ⟨he1, he2, he3⟩ := hs.each s[q] (List.getElem_mem hql)
      have hsr := hs.rd
      obtain ⟨pa, rfl⟩ := hsr.some_ (by omega)
      refine ops_val (ex_pick_t rfl rfl) ?_
      refine ops_nil ?_
      change Run _ _ _ _ [_, _, _, _, _, _, _, _, _, _, _, _, _, _, _, _, _, _, _, _, _, _, _, _, _, _, _, _, _, _, _, _, _, _, _, _, _, _, _, _, _, _, _, _, _, _, _, _, _, _, _, _, _, _, _, _, _, _, _, _, _, _, _, _, _, _, _] _
      refine run_cond_true rfl ?_
      refine run_skip ?_
      refine run_seq ?_
      refine run_block ?_
      refine run_seq ?_
      refine run_region ?_
      refine ops_val (ex_move rfl) ?_
      refine ops_val (ex_move rfl) ?_
      refine ops_val (ex_idx Try.underlying22 ty45 rfl rfl rfl hql rfl) ?_
      refine ops_val (ex_loadN ty45 rfl (vs := OpV.cells s[q]) rfl (fun t v hv => op_cell (hsr.to0 H2) hql t v hv)) ?_
      change Ops _ _ _ _ _ _ [_, _, _, _, _, _, _, _, _, _, _, _, _, _, _, _, _, _, _, _, _, _, _, _, _, _, _, _, _, _, _, _, _, _, _, _, _, _, _, _, _, _, _, _, _, _, _, _, _, _, _, _, _, _, _, _, _, _, _, _, _, _, _, _, _, _, _] _
      refine ops_alloc ty45 H2 ?_
      intro w3 g3 H3 hg3
      refine ops_store ty45 H3 3 rfl rfl rfl rfl rfl (by first | decide | simp) rfl ?_
      intro w4 H4
      refine ops_nil ?_
      change Run _ _ _ _ [_, _, _, _, _, _, _, _, _, _, _, _, _, _, _, _, _, _, _, _, _, _, _, _, _, _, _, _, _, _, _, _, _, _, _, _, _, _, _, _, _, _, _, _, _, _, _, _, _, _, _, _, _, _, _, _, _, _, _, _, _, _, _, _, _, _, _] _
      refine run_seq ?_
      refine run_region ?_
      refine ops_val (ex_fieldAddr fl45_0 rfl) ?_
      refine ops_val (ex_load ty3 rfl (H4.cell (i := 3) rfl rfl)) ?_
      refine ops_nil ?_
      change Run _ _ _ _ [_, _, _, _, _, _, _, _, _, _, _, _, _, _, _, _, _, _, _, _, _, _, _, _, _, _, _, _, _, _, _, _, _, _, _, _, _, _, _, _, _, _, _, _, _, _, _, _, _, _, _, _, _, _, _, _, _, _, _, _, _, _, _, _, _, _, _] _
      refine run_block ?_
      refine run_seq ?_
      refine run_region ?_
      refine ops_test (ex_eql rfl rfl) (fun hp41 => ?_) (fun hp41 => ?_)
      · skip
        refine ops_val (ex_assign rfl) ?_
        refine ops_nil ?_
        change Run _ _ _ _ [_, _, _, _, _, _, _, _, _, _, _, _, _, _, _, _, _, _, _, _, _, _, _, _, _, _, _, _, _, _, _, _, _, _, _, _, _, _, _, _, _, _, _, _, _, _, _, _, _, _, _, _, _, _, _, _, _, _, _, _, _, _, _, _, _, _, _] _
        refine run_cond_true rfl ?_
        refine run_region ?_
        refine ops_val (ex_move rfl) ?_
        refine ops_val (ex_fieldAddr fl45_1 rfl) ?_
        refine ops_val (ex_load ty3 rfl (H4.cell (i := 3) rfl rfl)) ?_
        refine ops_call (ex_call gf15 rfl) (read_any gd gk gw cw sp D _ (H4.pick [0, 1, 2] (by decide)).here hO s[q].a hwm) ?_
        rintro _ w5 ⟨g9, c9, s9, rfl, _, _, _, Hd⟩
        have H5 := (H4.callr [0, 1, 2] rfl Hd).pick [4, 5, 6] (by decide)
        refine ops_nil ?_
        change Run _ _ _ _ [_, _, _, _, _, _, _, _, _, _, _, _, _, _, _, _, _, _, _, _, _, _, _, _, _, _, _, _, _, _, _, _, _, _, _, _, _, _, _, _, _, _, _, _, _, _, _, _, _, _, _, _, _, _, _, _, _, _, _, _, _, _, _, _, _, _, _] _
        refine run_nil (blk_normal ?_)
        refine run_nil (blk_normal ?_)
        refine run_region ?_
        refine ops_val (ex_move rfl) ?_
        refine ops_val (ex_add rfl rfl (IntWalk.i64_in _ (by omega))) ?_
        refine ops_val (ex_assign rfl) ?_
        refine ops_nil ?_
        change Run _ _ _ _ [_, _, _, _, _, _, _, _, _, _, _, _, _, _, _, _, _, _, _, _, _, _, _, _, _, _, _, _, _, _, _, _, _, _, _, _, _, _, _, _, _, _, _, _, _, _, _, _, _, _, _, _, _, _, _, _, _, _, _, _, _, _, _, _, _, _, _] _
        refine run_nil (rnd_normal ?_)
        exact ⟨s.length - (q + 1), by omega, q + 1, _, gw, cw, sp, D, rfl, (fn (fs (fn (fn (fn (fs (fn (fs (fn (fn (fn (fn (fn (fn (fn (fn (fn (fn (fn (fn (fn (fn (fn (fn (fn (fn (fn (fn (fn (fn (fn (fn (fn (fn (fn (fn (fn (fn (fn (fn (fn (fn (fn (fn (fn (fn (fn (fn (fn (fn (fn (fn (fn (fn (fn (fn (fn (fn (fn (fn (fn (fn (fn (fn (fn (fn (fn f0))))))))))))))))))))))))))))))))))))))))))))))))))))))))))))))))))), rfl, by omega, hO, by omega, hkm, H5.pick [0, 1, 2] (by decide)⟩
      · skip
        refine ops_val (ex_assign rfl) ?_
        refine ops_nil ?_
        change Run _ _ _ _ [_, _, _, _, _, _, _, _, _, _, _, _, _, _, _, _, _, _, _, _, _, _, _, _, _, _, _, _, _, _, _, _, _, _, _, _, _, _, _, _, _, _, _, _, _, _, _, _, _, _, _, _, _, _, _, _, _, _, _, _, _, _, _, _, _, _, _] _
        refine run_cond_false rfl ?_
        refine run_seq ?_
        refine run_region ?_
        refine ops_test (ex_eql rfl rfl) (fun hp47 => ?_) (fun hp47 => ?_)
        · skip
          refine ops_val (ex_assign rfl) ?_
          refine ops_nil ?_
          change Run _ _ _ _ [_, _, _, _, _, _, _, _, _, _, _, _, _, _, _, _, _, _, _, _, _, _, _, _, _, _, _, _, _, _, _, _, _, _, _, _, _, _, _, _, _, _, _, _, _, _, _, _, _, _, _, _, _, _, _, _, _, _, _, _, _, _, _, _, _, _, _] _
          refine run_cond_true rfl ?_
          refine run_region ?_
          refine ops_val (ex_move rfl) ?_
          refine ops_call_val (ex_call gf17 rfl) (sync_any gd gk gw cw sp D _ (H4.pick [0, 1, 2] (by decide)).here hO hwm) ?_
          intro w5 ⟨g5, c5, s5, hO5, Hd⟩
          have H5 := (H4.callr [0, 1, 2] rfl Hd).pick [4, 5, 6] (by decide)
          refine ops_nil ?_
          change Run _ _ _ _ [_, _, _, _, _, _, _, _, _, _, _, _, _, _, _, _, _, _, _, _, _, _, _, _, _, _, _, _, _, _, _, _, _, _, _, _, _, _, _, _, _, _, _, _, _, _, _, _, _, _, _, _, _, _, _, _, _, _, _, _, _, _, _, _, _, _, _] _
          refine run_nil (blk_normal ?_)
          refine run_nil (blk_normal ?_)
          refine run_region ?_
          refine ops_val (ex_move rfl) ?_
          refine ops_val (ex_add rfl rfl (IntWalk.i64_in _ (by omega))) ?_
          refine ops_val (ex_assign rfl) ?_
          refine ops_nil ?_
          change Run _ _ _ _ [_, _, _, _, _, _, _, _, _, _, _, _, _, _, _, _, _, _, _, _, _, _, _, _, _, _, _, _, _, _, _, _, _, _, _, _, _, _, _, _, _, _, _, _, _, _, _, _, _, _, _, _, _, _, _, _, _, _, _, _, _, _, _, _, _, _, _] _
          refine run_nil (rnd_normal ?_)
          obtain ⟨hb1, hb2⟩ := sync_bd D
          exact ⟨s.length - (q + 1), by omega, q + 1, _, g5, c5, s5, D.sync.1, rfl, (fn (fs (fn (fn (fn (fs (fn (fs (fn (fn (fn (fn (fn (fn (fn (fn (fn (fn (fn (fn (fn (fn (fn (fn (fn (fn (fn (fn (fn (fn (fn (fn (fn (fn (fn (fn (fn (fn (fn (fn (fn (fn (fn (fn (fn (fn (fn (fn (fn (fn (fn (fn (fn (fn (fn (fn (fn (fn (fn (fn (fn (fn (fn (fn (fn (fn (fn f0))))))))))))))))))))))))))))))))))))))))))))))))))))))))))))))))))), rfl, by omega, hO5, by omega, by omega, H5⟩
        · skip
          refine ops_val (ex_assign rfl) ?_
          refine ops_nil ?_
          change Run _ _ _ _ [_, _, _, _, _, _, _, _, _, _, _, _, _, _, _, _, _, _, _, _, _, _, _, _, _, _, _, _, _, _, _, _, _, _, _, _, _, _, _, _, _, _, _, _, _, _, _, _, _, _, _, _, _, _, _, _, _, _, _, _, _, _, _, _, _, _, _] _
          refine run_cond_false rfl ?_
          refine run_seq ?_
          refine run_region ?_
          refine ops_test (ex_eql rfl rfl) (fun hp51 => ?_) (fun hp51 => ?_)
          · skip
            refine ops_val (ex_assign rfl) ?_
            refine ops_nil ?_
            change Run _ _ _ _ [_, _, _, _, _, _, _, _, _, _, _, _, _, _, _, _, _, _, _, _, _, _, _, _, _, _, _, _, _, _, _, _, _, _, _, _, _, _, _, _, _, _, _, _, _, _, _, _, _, _, _, _, _, _, _, _, _, _, _, _, _, _, _, _, _, _, _] _
            refine run_cond_true rfl ?_
            refine run_region ?_
            refine ops_val (ex_move rfl) ?_
            refine ops_val (ex_fieldAddr fl45_2 rfl) ?_
            refine ops_val (ex_load ty3 rfl (H4.cell (i := 3) rfl rfl)) ?_
            refine ops_call_val (ex_call gf11 rfl) (arm_any gd gk gw cw sp D _ (H4.pick [0, 1, 2] (by decide)).here hO s[q].m he1 he2) ?_
            intro w5 ⟨g5, c5, s5, hO5, Hd⟩
            have H5 := (H4.callr [0, 1, 2] rfl Hd).pick [4, 5, 6] (by decide)
            refine ops_nil ?_
            change Run _ _ _ _ [_, _, _, _, _, _, _, _, _, _, _, _, _, _, _, _, _, _, _, _, _, _, _, _, _, _, _, _, _, _, _, _, _, _, _, _, _, _, _, _, _, _, _, _, _, _, _, _, _, _, _, _, _, _, _, _, _, _, _, _, _, _, _, _, _, _, _] _
            refine run_nil (blk_normal ?_)
            refine run_nil (blk_normal ?_)
            refine run_region ?_
            refine ops_val (ex_move rfl) ?_
            refine ops_val (ex_add rfl rfl (IntWalk.i64_in _ (by omega))) ?_
            refine ops_val (ex_assign rfl) ?_
            refine ops_nil ?_
            change Run _ _ _ _ [_, _, _, _, _, _, _, _, _, _, _, _, _, _, _, _, _, _, _, _, _, _, _, _, _, _, _, _, _, _, _, _, _, _, _, _, _, _, _, _, _, _, _, _, _, _, _, _, _, _, _, _, _, _, _, _, _, _, _, _, _, _, _, _, _, _, _] _
            refine run_nil (rnd_normal ?_)
            obtain ⟨hb1, hb2⟩ := arm_bd D s[q].m
            exact ⟨s.length - (q + 1), by omega, q + 1, _, g5, c5, s5, (D.arm s[q].m).1, rfl, (fn (fs (fn (fn (fn (fs (fn (fs (fn (fn (fn (fn (fn (fn (fn (fn (fn (fn (fn (fn (fn (fn (fn (fn (fn (fn (fn (fn (fn (fn (fn (fn (fn (fn (fn (fn (fn (fn (fn (fn (fn (fn (fn (fn (fn (fn (fn (fn (fn (fn (fn (fn (fn (fn (fn (fn (fn (fn (fn (fn (fn (fn (fn (fn (fn (fn (fn f0))))))))))))))))))))))))))))))))))))))))))))))))))))))))))))))))))), rfl, by omega, hO5, by omega, by omega, H5⟩
          · skip
            refine ops_val (ex_assign rfl) ?_
            refine ops_nil ?_
            change Run _ _ _ _ [_, _, _, _, _, _, _, _, _, _, _, _, _, _, _, _, _, _, _, _, _, _, _, _, _, _, _, _, _, _, _, _, _, _, _, _, _, _, _, _, _, _, _, _, _, _, _, _, _, _, _, _, _, _, _, _, _, _, _, _, _, _, _, _, _, _, _] _
            refine run_cond_false rfl ?_
            refine run_seq ?_
            refine run_region ?_
            refine ops_test (ex_eql rfl rfl) (fun hp57 => ?_) (fun hp57 => ?_)
            · skip
              refine ops_val (ex_assign rfl) ?_
              refine ops_nil ?_
              change Run _ _ _ _ [_, _, _, _, _, _, _, _, _, _, _, _, _, _, _, _, _, _, _, _, _, _, _, _, _, _, _, _, _, _, _, _, _, _, _, _, _, _, _, _, _, _, _, _, _, _, _, _, _, _, _, _, _, _, _, _, _, _, _, _, _, _, _, _, _, _, _] _
              refine run_cond_true rfl ?_
              refine run_region ?_
              refine ops_val (ex_move rfl) ?_
              refine ops_val (ex_fieldAddr fl45_4 rfl) ?_
              refine ops_val (ex_load ty23 rfl (H4.cell (i := 3) rfl rfl)) ?_
              refine ops_call_val (ex_call gf20 rfl) (crash_any gd gk gw cw sp D _ (H4.pick [0, 1, 2] (by decide)).here hO s[q].B s[q].keep s[q].kcap (he3.to0 H4) (fun hk => sep_old (H4.pick [0, 1, 2] (by decide)) he3 hk) hwm) ?_
              intro w5 ⟨g5, c5, s5, hO5, Hd⟩
              have H5 := (H4.callr [0, 1, 2] rfl Hd).pick [4, 5, 6] (by decide)
              refine ops_nil ?_
              change Run _ _ _ _ [_, _, _, _, _, _, _, _, _, _, _, _, _, _, _, _, _, _, _, _, _, _, _, _, _, _, _, _, _, _, _, _, _, _, _, _, _, _, _, _, _, _, _, _, _, _, _, _, _, _, _, _, _, _, _, _, _, _, _, _, _, _, _, _, _, _, _] _
              refine run_nil (blk_normal ?_)
              refine run_nil (blk_normal ?_)
              refine run_region ?_
              refine ops_val (ex_move rfl) ?_
              refine ops_val (ex_add rfl rfl (IntWalk.i64_in _ (by omega))) ?_
              refine ops_val (ex_assign rfl) ?_
              refine ops_nil ?_
              change Run _ _ _ _ [_, _, _, _, _, _, _, _, _, _, _, _, _, _, _, _, _, _, _, _, _, _, _, _, _, _, _, _, _, _, _, _, _, _, _, _, _, _, _, _, _, _, _, _, _, _, _, _, _, _, _, _, _, _, _, _, _, _, _, _, _, _, _, _, _, _, _] _
              refine run_nil (rnd_normal ?_)
              obtain ⟨hb1, hb2⟩ := crash_bd D s[q].keep
              exact ⟨s.length - (q + 1), by omega, q + 1, _, g5, c5, s5, D.crash s[q].keep, rfl, (fn (fs (fn (fn (fn (fs (fn (fs (fn (fn (fn (fn (fn (fn (fn (fn (fn (fn (fn (fn (fn (fn (fn (fn (fn (fn (fn (fn (fn (fn (fn (fn (fn (fn (fn (fn (fn (fn (fn (fn (fn (fn (fn (fn (fn (fn (fn (fn (fn (fn (fn (fn (fn (fn (fn (fn (fn (fn (fn (fn (fn (fn (fn (fn (fn (fn (fn f0))))))))))))))))))))))))))))))))))))))))))))))))))))))))))))))))))), rfl, by omega, hO5, by omega, by omega, H5⟩
            · skip
              refine ops_val (ex_assign rfl) ?_
              refine ops_nil ?_
              change Run _ _ _ _ [_, _, _, _, _, _, _, _, _, _, _, _, _, _, _, _, _, _, _, _, _, _, _, _, _, _, _, _, _, _, _, _, _, _, _, _, _, _, _, _, _, _, _, _, _, _, _, _, _, _, _, _, _, _, _, _, _, _, _, _, _, _, _, _, _, _, _] _
              refine run_cond_false rfl ?_
              refine run_seq ?_
              refine run_region ?_
              refine ops_test (ex_eql rfl rfl) (fun hp63 => ?_) (fun hp63 => ?_)
              · skip
                refine ops_val (ex_assign rfl) ?_
                refine ops_nil ?_
                change Run _ _ _ _ [_, _, _, _, _, _, _, _, _, _, _, _, _, _, _, _, _, _, _, _, _, _, _, _, _, _, _, _, _, _, _, _, _, _, _, _, _, _, _, _, _, _, _, _, _, _, _, _, _, _, _, _, _, _, _, _, _, _, _, _, _, _, _, _, _, _, _] _
                refine run_cond_true rfl ?_
                refine run_region ?_
                refine ops_val (ex_move rfl) ?_
                refine ops_call_val (ex_call gf10 rfl) (start_any gd gk gw cw sp D _ (H4.pick [0, 1, 2] (by decide)).here hO) ?_
                intro w5 ⟨g5, c5, s5, hO5, Hd⟩
                have H5 := (H4.callr [0, 1, 2] rfl Hd).pick [4, 5, 6] (by decide)
                refine ops_nil ?_
                change Run _ _ _ _ [_, _, _, _, _, _, _, _, _, _, _, _, _, _, _, _, _, _, _, _, _, _, _, _, _, _, _, _, _, _, _, _, _, _, _, _, _, _, _, _, _, _, _, _, _, _, _, _, _, _, _, _, _, _, _, _, _, _, _, _, _, _, _, _, _, _, _] _
                refine run_nil (blk_normal ?_)
                refine run_nil (blk_normal ?_)
                refine run_region ?_
                refine ops_val (ex_move rfl) ?_
                refine ops_val (ex_add rfl rfl (IntWalk.i64_in _ (by omega))) ?_
                refine ops_val (ex_assign rfl) ?_
                refine ops_nil ?_
                change Run _ _ _ _ [_, _, _, _, _, _, _, _, _, _, _, _, _, _, _, _, _, _, _, _, _, _, _, _, _, _, _, _, _, _, _, _, _, _, _, _, _, _, _, _, _, _, _, _, _, _, _, _, _, _, _, _, _, _, _, _, _, _, _, _, _, _, _, _, _, _, _] _
                refine run_nil (rnd_normal ?_)
                obtain ⟨hb1, hb2⟩ := start_bd D
                exact ⟨s.length - (q + 1), by omega, q + 1, _, g5, c5, s5, D.start, rfl, (fn (fs (fn (fn (fn (fs (fn (fs (fn (fn (fn (fn (fn (fn (fn (fn (fn (fn (fn (fn (fn (fn (fn (fn (fn (fn (fn (fn (fn (fn (fn (fn (fn (fn (fn (fn (fn (fn (fn (fn (fn (fn (fn (fn (fn (fn (fn (fn (fn (fn (fn (fn (fn (fn (fn (fn (fn (fn (fn (fn (fn (fn (fn (fn (fn (fn (fn f0))))))))))))))))))))))))))))))))))))))))))))))))))))))))))))))))))), rfl, by omega, hO5, by omega, by omega, H5⟩
              · skip
                refine ops_val (ex_assign rfl) ?_
                refine ops_nil ?_
                change Run _ _ _ _ [_, _, _, _, _, _, _, _, _, _, _, _, _, _, _, _, _, _, _, _, _, _, _, _, _, _, _, _, _, _, _, _, _, _, _, _, _, _, _, _, _, _, _, _, _, _, _, _, _, _, _, _, _, _, _, _, _, _, _, _, _, _, _, _, _, _, _] _
                refine run_cond_false rfl ?_
                refine run_mixH [(true, 0), (true, 1), (true, 2), (true, 3), (false, 4), (false, 5)] H4 [3] mixed (by decide) (by kernel_rfl) ?_
                rintro w5 hw5
                have H5 := Hp.drew H4; rw [← hw5] at H5
                refine mix_p rfl ?_
                refine mix1_val (fun wz hz => ex_move rfl) ?_
                refine mix_p rfl ?_
                refine mix1_val (fun wz hz => ex_fieldAddr fl45_1 rfl) ?_
                refine mix_p rfl ?_
                refine mix1_val (fun wz hz => ex_load ty3 rfl (hz.cell (i := 0) rfl rfl)) ?_
                refine mix_p rfl ?_
                refine mix1_val (fun wz hz => ex_loadN ty45 rfl (vs := OpV.cells s[q]) rfl (cells_of hz (i := 0) (o := 0) rfl (fun t v hv => by rw [Nat.zero_add]; exact hv))) ?_
                change Mixes _ _ _ _ _ _ [_, _, _, _, _, _, _, _, _, _, _, _, _, _, _, _, _, _, _, _, _, _, _, _, _, _, _, _, _, _, _, _, _, _, _, _, _, _, _, _, _, _, _, _, _, _, _, _, _, _, _, _, _, _, _, _, _, _, _, _, _, _, _, _, _, _, _] _
                refine mix_o rfl ?_
                refine ops_call_own (ex_call gf22 rfl) (data_any s[q] _) ?_
                intro w6 g6 c6 s6 hm6 hc6 hg6 Hd
                have H6 := H5.call0 Hd
                refine ops_nil ?_
                refine ⟨H6.pick [3] (by decide), ?_⟩
                change Mixes _ _ _ _ _ _ [_, _, _, _, _, _, _, _, _, _, _, _, _, _, _, _, _, _, _, _, _, _, _, _, _, _, _, _, _, _, _, _, _, _, _, _, _, _, _, _, _, _, _, _, _, _, _, _, _, _, _, _, _, _, _, _, _, _, _, _, _, _, _, _, _, _, _] _
                refine mix_o rfl ?_
                refine ops_call_val (ex_call gf13 rfl) (write_any gd gk gw cw sp D _ (H6.pick [0, 1, 2] (by decide)).here hO s[q].a (hd g6) (dataOf s[q].m s[q].x) c6 (H6.rd (i := 4) (o := g6) (xs := u8s (dataOf s[q].m s[q].x)) (sp := s6) rfl (u8s_length1 _) (by decide)) (sep_of H6 4 [0, 1, 2] rfl rfl (by decide)) hwm) ?_
                intro w7 ⟨g5, c5, s5, hO5, Hd⟩
                have H7 := (H6.callr [0, 1, 2] rfl Hd).pick [5, 6, 7, 3] (by decide)
                refine ops_nil ?_
                refine ⟨H7.pick [3] (by decide), ?_⟩
                change Mixes _ _ _ _ _ _ [_, _, _, _, _, _, _, _, _, _, _, _, _, _, _, _, _, _, _, _, _, _, _, _, _, _, _, _, _, _, _, _, _, _, _, _, _, _, _, _, _, _, _, _, _, _, _, _, _, _, _, _, _, _, _, _, _, _, _, _, _, _, _, _, _, _, _] _
                refine mix_nil ?_
                change Run _ _ _ _ [_, _, _, _, _, _, _, _, _, _, _, _, _, _, _, _, _, _, _, _, _, _, _, _, _, _, _, _, _, _, _, _, _, _, _, _, _, _, _, _, _, _, _, _, _, _, _, _, _, _, _, _, _, _, _, _, _, _, _, _, _, _, _, _, _, _, _] _
                refine run_nil (blk_normal ?_)
                refine run_nil (blk_normal ?_)
                refine run_region ?_
                refine ops_val (ex_move rfl) ?_
                refine ops_val (ex_add rfl rfl (IntWalk.i64_in _ (by omega))) ?_
                refine ops_val (ex_assign rfl) ?_
                refine ops_nil ?_
                change Run _ _ _ _ [_, _, _, _, _, _, _, _, _, _, _, _, _, _, _, _, _, _, _, _, _, _, _, _, _, _, _, _, _, _, _, _, _, _, _, _, _, _, _, _, _, _, _, _, _, _, _, _, _, _, _, _, _, _, _, _, _, _, _, _, _, _, _, _, _, _, _] _
                refine run_nil (rnd_normal ?_)
                obtain ⟨hb1, hb2⟩ := write_bd D s[q].a (dataOf s[q].m s[q].x)
                exact ⟨s.length - (q + 1), by omega, q + 1, _, g5, c5, s5, (D.write s[q].a (dataOf s[q].m s[q].x)).1, rfl, (fn (fs (fn (fn (fn (fs (fn (fs (fn (fn (fn (fn (fn (fn (fn (fn (fn (fn (fn (fn (fn (fn (fn (fn (fn (fn (fn (fn (fn (fn (fn (fn (fn (fn (fn (fn (fn (fn (fn (fn (fn (fn (fn (fn (fn (fn (fn (fn (fn (fn (fn (fn (fn (fn (fn (fn (fn (fn (fn (fn (fn (fn (fn (fn (fn (fn (fn f0))))))))))))))))))))))))))))))))))))))))))))))))))))))))))))))))))), rfl, by omega, hO5, by omega, by omega, H7.pick [0, 1, 2] (by decide)⟩
    · skip
      refine ops_val (ex_pick_t rfl rfl) ?_
      refine ops_nil ?_
      change Run _ _ _ _ [_, _, _, _, _, _, _, _, _, _, _, _, _, _, _, _, _, _, _, _, _, _, _, _, _, _, _, _, _, _, _, _, _, _, _, _, _, _, _, _, _, _, _, _, _, _, _, _, _, _, _, _, _, _, _, _, _, _, _, _, _, _, _, _, _, _, _] _
      refine run_cond_false rfl ?_
      refine run_exit ?_
      refine rnd_exit ?_
      refine blk_exit ?_
      refine run_seq ?_
      refine run_region ?_
      refine ops_val (ex_move rfl) ?_
      refine ops_val (ex_assign rfl) ?_
      refine ops_nil ?_
      change Run _ _ _ _ [_, _, _, _, _, _, _, _, _, _, _, _, _, _, _, _, _, _, _, _, _, _, _, _, _, _, _, _, _, _, _, _, _, _, _, _, _, _, _, _, _, _, _, _, _, _, _, _, _, _, _, _, _, _, _, _, _, _, _, _, _, _, _, _, _, _, _] _
      refine run_ret ?_
      refine fin_ret1 rfl rfl ?_
      exact ⟨gd, gk, gw, cw, sp, D, rfl, hO, by omega, by omega, H2⟩
end Go.Proofs.Ytnlajgeehlpdaaa
