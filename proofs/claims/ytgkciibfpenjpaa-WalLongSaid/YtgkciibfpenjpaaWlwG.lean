/- Walks of layer 2, printed by wip/gen/codec.py. -/
import Derived.Test.YtgkciibfpenjpaaNrm
import Derived.Test.YtgkciibfpenjpaaLv
namespace Go.Proofs.Ytgkciibfpenjpaa
open Go Go.RowKit
set_option linter.unusedVariables false
attribute [local irreducible] Still Ops Does Cd
set_option maxRecDepth 100000 in
set_option maxHeartbeats 4000000 in
theorem walLong_any (A : Option Addr) (b : Blk) (c : Nat) (n : Int) (w0 : World) (hrA : Rd w0 A b.length 1 (u8s b)) (hbl : b.length ≤ 2 ^ 47) (hc : b.length ≤ c) (hn0 : -9223372036854775808 ≤ n) (hn1 : n ≤ 9223372036854775807) :
    Does Try.prog 4 #[.slice A b.length c, .int .i64 n] w0 (fun r w' => r = .bool true ∧ Hp w0 w' [] []) := by
  refine does_of Try.func4 Try.ntmps4 rfl ?_
  refine nR79 ?_
  have H := Hp.refl w0
  refine run_seq ?_
  refine run_region ?_
  refine ops_val (ex_assign rfl) ?_
  refine ops_nil ?_
  refine nR79 ?_
  refine run_seq ?_
  refine run_region ?_
  refine ops_call (ex_call gf9 rfl) (liveBegin_any 2048 _ (by decide) (by decide)) ?_
  rintro r w1 ⟨s0, hr, hl, hag, hrc, hfs, htd, hka, hkf, Hc⟩
  rw [hr]
  have HB : Hp w0 w1 [] (s0.rows ++ []) := by rw [List.append_nil]; exact (H.call0 Hc).right
  have H1 := HB.here
  refine ops_val (ex_assign rfl) ?_
  refine ops_nil ?_
  refine nR79 ?_
  refine run_seq ?_
  refine run_seq ?_
  refine run_region ?_
  refine ops_call_val (ex_call gf10 rfl) (awake_any _) ?_
  intro w2 Hd
  replace hl := hl.keep0 Hd
  have H2 := H1.callN Hd
  refine ops_val (ex_not rfl) ?_
  refine ops_val (ex_move rfl) ?_
  refine nO79 ?_
  refine ops_yes rfl ?_
  refine ops_val (ex_move rfl) ?_
  refine ops_yes rfl ?_
  refine ops_false (ex_eql_nil_ptr Try.underlying24 rfl) (by simp) ?_
  refine ops_val (ex_pick_f rfl rfl) ?_
  refine ops_nil ?_
  refine nR79 ?_
  refine run_cond_false rfl ?_
  refine run_skip ?_
  refine run_seq ?_
  refine run_seq ?_
  refine run_region ?_
  refine ops_val (ex_move rfl) ?_
  refine ops_val (ex_len_slice Try.underlying34 rfl) ?_
  refine ops_test (ex_gtr rfl rfl) (fun hp16 => ?_) (fun hp16 => ?_)
  · have hrT : Rd w0 A (b.take 300).length 1 (u8s (b.take 300)) := hrA.head (by omega)
    have h3 : (b.take 300).length = 300 := by simp; omega
    refine ops_nil ?_
    refine nR79 ?_
    refine run_cond_true rfl ?_
    refine run_region ?_
    refine ops_val (ex_move rfl) ?_
    refine ops_val (ex_cutHi Try.underlying34 ty5 rfl rfl (by omega)) ?_
    rw [show Int.toNat 300 = (b.take 300).length by rw [h3]; rfl]
    refine ops_val (ex_assign rfl) ?_
    refine ops_nil ?_
    refine nR79 ?_
    refine run_seq ?_
    refine run_region ?_
    refine ops_val (ex_move rfl) ?_
    obtain ⟨u, hu⟩ := u64_nat n
    refine ops_val (ex_conv Try.underlying23 Try.underlying3 rfl hu) ?_
    refine ops_val (ex_rem rfl rfl (by omega) (tmodN u 32770)) ?_
    have hnb : u % 32770 < 32770 := Nat.mod_lt _ (by decide)
    generalize u % 32770 = nb at hnb
    refine ops_val (ex_conv Try.underlying3 Try.underlying23 rfl (IntWalk.i64_in _ (by omega))) ?_
    refine nO79 ?_
    refine ops_val (ex_assign rfl) ?_
    refine ops_nil ?_
    refine nR79 ?_
    refine run_seq ?_
    refine run_seq ?_
    refine run_region ?_
    refine ops_val (ex_move rfl) ?_
    refine ops_val (ex_move rfl) ?_
    have HB : Hp w0 w2 [] (s0.rows ++ []) := HB.all H2
    refine ops_call (ex_call gf14 rfl) (liveAppend_any s0 2048 0 _ HB.less.here hl.less hag (by omega) A (b.take 300) c (hrT.to0 HB) (fun h0 p hp hx => old_not HB.less (rd_lt hrT h0 hp) (fun hx => by cases hx) hx) (by simp only [List.length_take]; omega)) ?_
    rintro r w3 ⟨hr1, s1, hp, hag, ho⟩
    rw [hr1]
    obtain ⟨_, _, hgb, hl, Hc⟩ := hp.more hl (lt_rest HB)
    have HB : Hp w0 w3 [] (s1.rows ++ []) := HB.front Hc
    have H3 := HB.here
    rw [← hgb] 
    have hu0 : used s0.W.recs = 0 := by rw [hrc]; rfl
    obtain ⟨hrc1, hfs1, _, _⟩ := ho.fits (by simp only [List.length_take]; omega) (by rw [hu0]; unfold wgt; simp only [List.length_take]; omega)
    rw [hrc, List.nil_append] at hrc1
    rw [hfs] at hfs1
    have hu1 : used s1.W.recs ≤ 7 := by rw [hrc1, used_one]; unfold wgt; simp only [List.length_take]; omega
    refine ops_val (ex_not rfl) ?_
    refine nO79 ?_
    refine ops_val (ex_move rfl) ?_
    refine ops_yes rfl ?_
    refine ops_val (ex_move rfl) ?_
    refine nO79 ?_
    refine ops_yes rfl ?_
    refine ops_val (ex_move rfl) ?_
    refine ops_yes rfl ?_
    refine ops_make Try.underlying34 ty5 H3 rfl rfl (n := nb) (c := nb) (Nat.le_refl _) (by omega) (by omega) ?_
    intro w4 g30 H4 hg30
    replace hl : Live w4 s1 [((some g30, 5, List.replicate nb (.int .u8 0)) : Ent)] 2048 1 := hl.grow H4 rfl
    refine nO79 ?_
    refine ops_yes rfl ?_
    have HB : Hp w0 w4 [] (s1.rows ++ [((some g30, 5, List.replicate nb (.int .u8 0)) : Ent)]) := HB.all H4
    have hZl : (List.replicate nb 0 : Blk).length = nb := List.length_replicate ..
    have hcall := liveAppend_any s1 2048 1 _ HB.less.here hl.less hag (by omega) (hd (some g30)) (List.replicate nb 0 : Blk) nb (by rw [u8s_zero, List.length_replicate]; exact HB.rd (i := 8) (o := some g30) (xs := List.replicate nb (.int .u8 0)) (sp := []) (by rw [List.append_nil]; rfl) (by rw [List.length_replicate, Nat.mul_one]) (by decide)) (fun _ p hp hx => by simp only [hd, Option.map_some, Option.some.injEq] at hp; subst hp; exact row_not HB (i := 8) rfl (is := [0, 1, 2, 3, 4, 5, 6, 7]) (by decide) hx) (by rw [List.length_replicate]; omega)
    rw [hZl] at hcall
    refine ops_call (ex_call gf14 rfl) hcall ?_
    rintro r w5 ⟨hr1, s2, hp, hag, ho⟩
    rw [hr1]
    obtain ⟨_, _, hgb, hl, Hc⟩ := hp.more hl (lt_rest HB)
    have HB : Hp w0 w5 [] (s2.rows ++ [((some g30, 5, List.replicate nb (.int .u8 0)) : Ent)]) := HB.front Hc
    have H5 := HB.here
    rw [← hgb] 
    have hrc2 : s2.W.recs = s1.W.recs ++ ((if 16384 < nb then [] else [(List.replicate nb 0 : Blk)]) : List Blk) ∧ s2.W.first = s1.W.first := by
      by_cases hq : 16384 < nb
      · obtain ⟨h1, _⟩ := ho.long (by rw [hZl]; exact hq)
        rw [if_pos hq, List.append_nil, h1]; exact ⟨rfl, rfl⟩
      · obtain ⟨h1, h2, _⟩ := ho.fits (by rw [hZl]; omega) (by rw [hZl]; unfold wgt; omega)
        rw [if_neg hq]; exact ⟨h1, h2⟩
    obtain ⟨hrc2, hfs2⟩ := hrc2
    have hu2 : used s2.W.recs ≤ 300 := by
      rw [hrc2, used_append]
      by_cases hq : 16384 < nb
      · rw [if_pos hq]; show _ + 0 ≤ _; omega
      · rw [if_neg hq, used_one, hZl]; unfold wgt; omega
    refine ops_yes rfl ?_
    refine ops_val (ex_not rfl) ?_
    refine ops_val (ex_pick_f rfl rfl) ?_
    refine ops_val (ex_move rfl) ?_
    refine nO79 ?_
    refine ops_yes rfl ?_
    refine ops_val (ex_move rfl) ?_
    refine ops_yes rfl ?_
    have HB : Hp w0 w5 [] (s2.rows ++ [((some g30, 5, List.replicate nb (.int .u8 0)) : Ent)]) := HB.all H5
    refine ops_call (ex_call gf14 rfl) (liveAppend_any s2 2048 2 _ HB.less.here hl.less hag (by omega) none [] 0 (⟨rfl, fun _ h => (by cases h), fun _ => rfl⟩) (fun h0 => absurd h0 (by decide)) (by decide)) ?_
    rintro r w6 ⟨hr1, s3, hp, hag, ho⟩
    rw [hr1]
    obtain ⟨_, _, hgb, hl, Hc⟩ := hp.more hl (lt_rest HB)
    have HB : Hp w0 w6 [] (s3.rows ++ [((some g30, 5, List.replicate nb (.int .u8 0)) : Ent)]) := HB.front Hc
    have H6 := HB.here
    rw [← hgb] 
    obtain ⟨hrc3, hfs3, _, _⟩ := ho.fits (by decide) (by unfold wgt; simp only [List.length_nil]; omega)
    have hnx := hl.next
    refine nO79 ?_
    refine ops_yes rfl ?_
    refine ops_val (ex_not rfl) ?_
    refine ops_val (ex_pick_f rfl rfl) ?_
    refine ops_nil ?_
    refine nR79 ?_
    refine run_cond_false rfl ?_
    refine run_skip ?_
    refine run_seq ?_
    refine run_region ?_
    refine ops_val (ex_assign rfl) ?_
    refine ops_nil ?_
    refine nR79 ?_
    refine run_seq ?_
    refine run_seq ?_
    refine run_region ?_
    refine ops_val (ex_move rfl) ?_
    refine ops_test (ex_gtr rfl rfl) (fun hp40 => ?_) (fun hp40 => ?_)
    · have hlen : s3.W.recs.length = 2 := by rw [hrc3, hrc2, hrc1, if_pos (show 16384 < nb by omega)]; rfl
      refine ops_nil ?_
      refine nR79 ?_
      refine run_cond_true rfl ?_
      refine run_region ?_
      refine ops_val (ex_assign rfl) ?_
      refine ops_nil ?_
      refine nR79 ?_
      refine run_seq ?_
      refine run_region ?_
      refine ops_val (ex_move rfl) ?_
      refine ops_val (ex_nilCheck rfl) ?_
      refine ops_val (ex_fieldAddr fl31_1 rfl) ?_
      refine ops_val (ex_load ty28 rfl (H6.cell (i := 6) rfl rfl)) ?_
      refine nO79 ?_
      refine ops_call_val (ex_call gf15 rfl) (next_any s3.m.gv s3.W.first s3.W.recs.length s3.m.cr (hd s3.m.gr) _ (H6.cell (i := 3) rfl rfl) (H6.cell (i := 3) rfl rfl) (by omega)) ?_
      intro w7 Hd
      replace hl := hl.keep0 Hd
      have H7 := H6.callN Hd
      refine ops_val (ex_move rfl) ?_
      refine ops_true (ex_eql rfl rfl) (by omega) ?_
      refine ops_val (ex_move rfl) ?_
      refine nO79 ?_
      refine ops_yes rfl ?_
      refine ops_val (ex_move rfl) ?_
      refine ops_yes rfl ?_
      refine ops_val (ex_nilCheck rfl) ?_
      refine nO79 ?_
      refine ops_yes rfl ?_
      refine ops_val (ex_fieldAddr fl31_1 rfl) ?_
      refine ops_yes rfl ?_
      refine ops_val (ex_load ty28 rfl (H7.cell (i := 6) rfl rfl)) ?_
      refine nO79 ?_
      refine ops_yes rfl ?_
      have HB : Hp w0 w7 [] (s3.rows ++ [((some g30, 5, List.replicate nb (.int .u8 0)) : Ent)]) := HB.all H7
      have hwt := hl.wait
      have htn := hl.turn
      have hft := hl.first
      refine ops_call (ex_call gf16 rfl) (sync_all s3.m s3.D s3.W _ HB.less.less.here hl.ok.ok (by omega) (by omega) (by omega)) ?_
      rintro r w8 ⟨x, D4, W4, hr4, hres, hwp⟩
      obtain ⟨hx0, hrc4, hfs4, htd4, hwt4, q, hl, Hc⟩ := hl.sc (gone := 0) (by omega) (lt_rest2 HB) (Nat.zero_le _) hres hwp (by omega)
      rw [hr4, hx0]
      rw [List.drop_zero] at hrc4
      have HB : Hp w0 w8 [] ((⟨mv s3.m q, D4, W4, s3.k, s3.K⟩ : Sx).rows ++ [((some g30, 5, List.replicate nb (.int .u8 0)) : Ent)]) := HB.front2 Hc
      have H8 := HB.here
      refine ops_yes rfl ?_
      refine ops_true (ex_eql rfl rfl) (rfl) ?_
      refine ops_val (ex_pick_t rfl rfl) ?_
      refine ops_val (ex_move rfl) ?_
      refine nO79 ?_
      refine ops_yes rfl ?_
      refine ops_val (ex_move rfl) ?_
      refine ops_yes rfl ?_
      refine ops_val (ex_nilCheck rfl) ?_
      refine nO79 ?_
      refine ops_yes rfl ?_
      refine ops_val (ex_fieldAddr fl31_1 rfl) ?_
      refine ops_yes rfl ?_
      refine ops_val (ex_load ty28 rfl (H8.cell (i := 6) rfl rfl)) ?_
      refine nO79 ?_
      refine ops_yes rfl ?_
      refine ops_call (ex_call gf17 rfl) ((Rn.records_any (mv s3.m q) D4 W4 _ H8.less.less.here hl.ok.ok).d (fun _ _ hx => hx)) ?_
      rintro r w9 ⟨g9, cap, ys, sp, hr, hcap, hcs, hgn, hown, hsep, Hc⟩
      rw [hr]
      replace hl := hl.keep0 Hc
      have H9 := H8.call0 Hc
      refine ops_yes rfl ?_
      refine ops_val (ex_len_slice Try.underlying29 rfl) ?_
      refine nO79 ?_
      refine ops_yes rfl ?_
      refine ops_val (ex_move rfl) ?_
      refine ops_yes rfl ?_
      refine ops_true (ex_eql rfl rfl) (by rw [hrc4]; omega) ?_
      refine ops_val (ex_pick_t rfl rfl) ?_
      refine ops_val (ex_move rfl) ?_
      refine nO79 ?_
      refine ops_yes rfl ?_
      refine ops_val (ex_move rfl) ?_
      refine ops_yes rfl ?_
      refine ops_val (ex_nilCheck rfl) ?_
      refine nO79 ?_
      refine ops_yes rfl ?_
      refine ops_val (ex_fieldAddr fl31_1 rfl) ?_
      refine ops_yes rfl ?_
      refine ops_val (ex_load ty28 rfl (H9.cell (i := 6) rfl rfl)) ?_
      refine nO79 ?_
      refine ops_yes rfl ?_
      refine ops_call (ex_call gf17 rfl) ((Rn.records_any (mv s3.m q) D4 W4 _ H9.less.less.less.here hl.ok.ok).d (fun _ _ hx => hx)) ?_
      rintro r w10 ⟨g10, cap, ys, sp, hr, hcap, hcs, hgn, hown, hsep, Hc⟩
      rw [hr]
      replace hl := hl.keep0 Hc
      have H10 := H9.call0 Hc 
      have hln4 : W4.recs.length = s3.W.recs.length := by rw [hrc4]
      obtain ⟨gx, rfl⟩ := own_some H10 (i := 10) rfl (by omega)
      refine ops_yes rfl ?_
      refine ops_val (ex_move rfl) ?_
      refine nO79 ?_
      refine ops_yes rfl ?_
      refine ops_val (ex_sub rfl rfl (IntWalk.i64_in _ (by omega))) ?_
      refine ops_yes rfl ?_
      refine ops_val (ex_idx Try.underlying29 ty34 rfl rfl (i := 1) rfl (by omega) (Nat.mul_one _)) ?_
      refine nO79 ?_
      refine ops_yes rfl ?_
      obtain ⟨Bz, cz, hz⟩ := hown.last0 (sp := sp) (hrc4.trans hrc3) (i := 1) (by rw [hrc2, hrc1, if_pos (show 16384 < nb by omega)]; rfl)
      refine ops_val (ex_load ty34 rfl (H10.cell (i := 10) rfl hz)) ?_
      refine ops_yes rfl ?_
      refine ops_val (ex_len_slice Try.underlying34 rfl) ?_
      refine nO79 ?_
      refine ops_yes rfl ?_
      refine ops_true (ex_eql rfl rfl) (rfl) ?_
      refine ops_val (ex_pick_t rfl rfl) ?_
      refine ops_val (ex_assign rfl) ?_
      refine ops_nil ?_
      refine nR79 ?_
      refine run_ret ?_
      refine fin_ret1 rfl rfl ?_
      exact ⟨rfl, (HB.all H10).noRows⟩
    · have hlen : s3.W.recs.length = 3 := by rw [hrc3, hrc2, hrc1, if_neg (show ¬ 16384 < nb by omega)]; rfl
      refine ops_nil ?_
      refine nR79 ?_
      refine run_cond_false rfl ?_
      refine run_skip ?_
      refine run_seq ?_
      refine run_region ?_
      refine ops_val (ex_move rfl) ?_
      refine ops_val (ex_nilCheck rfl) ?_
      refine ops_val (ex_fieldAddr fl31_1 rfl) ?_
      refine ops_val (ex_load ty28 rfl (H6.cell (i := 6) rfl rfl)) ?_
      refine nO79 ?_
      refine ops_call_val (ex_call gf15 rfl) (next_any s3.m.gv s3.W.first s3.W.recs.length s3.m.cr (hd s3.m.gr) _ (H6.cell (i := 3) rfl rfl) (H6.cell (i := 3) rfl rfl) (by omega)) ?_
      intro w7 Hd
      replace hl := hl.keep0 Hd
      have H7 := H6.callN Hd
      refine ops_val (ex_move rfl) ?_
      refine ops_true (ex_eql rfl rfl) (by omega) ?_
      refine ops_val (ex_move rfl) ?_
      refine nO79 ?_
      refine ops_yes rfl ?_
      refine ops_val (ex_move rfl) ?_
      refine ops_yes rfl ?_
      refine ops_val (ex_nilCheck rfl) ?_
      refine nO79 ?_
      refine ops_yes rfl ?_
      refine ops_val (ex_fieldAddr fl31_1 rfl) ?_
      refine ops_yes rfl ?_
      refine ops_val (ex_load ty28 rfl (H7.cell (i := 6) rfl rfl)) ?_
      refine nO79 ?_
      refine ops_yes rfl ?_
      have HB : Hp w0 w7 [] (s3.rows ++ [((some g30, 5, List.replicate nb (.int .u8 0)) : Ent)]) := HB.all H7
      have hwt := hl.wait
      have htn := hl.turn
      have hft := hl.first
      refine ops_call (ex_call gf16 rfl) (sync_all s3.m s3.D s3.W _ HB.less.less.here hl.ok.ok (by omega) (by omega) (by omega)) ?_
      rintro r w8 ⟨x, D4, W4, hr4, hres, hwp⟩
      obtain ⟨hx0, hrc4, hfs4, htd4, hwt4, q, hl, Hc⟩ := hl.sc (gone := 0) (by omega) (lt_rest2 HB) (Nat.zero_le _) hres hwp (by omega)
      rw [hr4, hx0]
      rw [List.drop_zero] at hrc4
      have HB : Hp w0 w8 [] ((⟨mv s3.m q, D4, W4, s3.k, s3.K⟩ : Sx).rows ++ [((some g30, 5, List.replicate nb (.int .u8 0)) : Ent)]) := HB.front2 Hc
      have H8 := HB.here
      refine ops_yes rfl ?_
      refine ops_true (ex_eql rfl rfl) (rfl) ?_
      refine ops_val (ex_pick_t rfl rfl) ?_
      refine ops_val (ex_move rfl) ?_
      refine nO79 ?_
      refine ops_yes rfl ?_
      refine ops_val (ex_move rfl) ?_
      refine ops_yes rfl ?_
      refine ops_val (ex_nilCheck rfl) ?_
      refine nO79 ?_
      refine ops_yes rfl ?_
      refine ops_val (ex_fieldAddr fl31_1 rfl) ?_
      refine ops_yes rfl ?_
      refine ops_val (ex_load ty28 rfl (H8.cell (i := 6) rfl rfl)) ?_
      refine nO79 ?_
      refine ops_yes rfl ?_
      refine ops_call (ex_call gf17 rfl) ((Rn.records_any (mv s3.m q) D4 W4 _ H8.less.less.here hl.ok.ok).d (fun _ _ hx => hx)) ?_
      rintro r w9 ⟨g9, cap, ys, sp, hr, hcap, hcs, hgn, hown, hsep, Hc⟩
      rw [hr]
      replace hl := hl.keep0 Hc
      have H9 := H8.call0 Hc
      refine ops_yes rfl ?_
      refine ops_val (ex_len_slice Try.underlying29 rfl) ?_
      refine nO79 ?_
      refine ops_yes rfl ?_
      refine ops_val (ex_move rfl) ?_
      refine ops_yes rfl ?_
      refine ops_true (ex_eql rfl rfl) (by rw [hrc4]; omega) ?_
      refine ops_val (ex_pick_t rfl rfl) ?_
      refine ops_val (ex_move rfl) ?_
      refine nO79 ?_
      refine ops_yes rfl ?_
      refine ops_val (ex_move rfl) ?_
      refine ops_yes rfl ?_
      refine ops_val (ex_nilCheck rfl) ?_
      refine nO79 ?_
      refine ops_yes rfl ?_
      refine ops_val (ex_fieldAddr fl31_1 rfl) ?_
      refine ops_yes rfl ?_
      refine ops_val (ex_load ty28 rfl (H9.cell (i := 6) rfl rfl)) ?_
      refine nO79 ?_
      refine ops_yes rfl ?_
      refine ops_call (ex_call gf17 rfl) ((Rn.records_any (mv s3.m q) D4 W4 _ H9.less.less.less.here hl.ok.ok).d (fun _ _ hx => hx)) ?_
      rintro r w10 ⟨g10, cap, ys, sp, hr, hcap, hcs, hgn, hown, hsep, Hc⟩
      rw [hr]
      replace hl := hl.keep0 Hc
      have H10 := H9.call0 Hc 
      have hln4 : W4.recs.length = s3.W.recs.length := by rw [hrc4]
      obtain ⟨gx, rfl⟩ := own_some H10 (i := 10) rfl (by omega)
      refine ops_yes rfl ?_
      refine ops_val (ex_move rfl) ?_
      refine nO79 ?_
      refine ops_yes rfl ?_
      refine ops_val (ex_sub rfl rfl (IntWalk.i64_in _ (by omega))) ?_
      refine ops_yes rfl ?_
      refine ops_val (ex_idx Try.underlying29 ty34 rfl rfl (i := 2) rfl (by omega) (Nat.mul_one _)) ?_
      refine nO79 ?_
      refine ops_yes rfl ?_
      obtain ⟨Bz, cz, hz⟩ := hown.last0 (sp := sp) (hrc4.trans hrc3) (i := 2) (by rw [hrc2, hrc1, if_neg (show ¬ 16384 < nb by omega)]; rfl)
      refine ops_val (ex_load ty34 rfl (H10.cell (i := 10) rfl hz)) ?_
      refine ops_yes rfl ?_
      refine ops_val (ex_len_slice Try.underlying34 rfl) ?_
      refine nO79 ?_
      refine ops_yes rfl ?_
      refine ops_true (ex_eql rfl rfl) (rfl) ?_
      refine ops_val (ex_pick_t rfl rfl) ?_
      refine ops_val (ex_assign rfl) ?_
      refine ops_nil ?_
      refine nR79 ?_
      refine run_ret ?_
      refine fin_ret1 rfl rfl ?_
      exact ⟨rfl, (HB.all H10).noRows⟩
  · skip
    refine ops_nil ?_
    refine nR79 ?_
    refine run_cond_false rfl ?_
    refine run_skip ?_
    refine run_seq ?_
    refine run_region ?_
    refine ops_val (ex_move rfl) ?_
    obtain ⟨u, hu⟩ := u64_nat n
    refine ops_val (ex_conv Try.underlying23 Try.underlying3 rfl hu) ?_
    refine ops_val (ex_rem rfl rfl (by omega) (tmodN u 32770)) ?_
    have hnb : u % 32770 < 32770 := Nat.mod_lt _ (by decide)
    generalize u % 32770 = nb at hnb
    refine ops_val (ex_conv Try.underlying3 Try.underlying23 rfl (IntWalk.i64_in _ (by omega))) ?_
    refine nO79 ?_
    refine ops_val (ex_assign rfl) ?_
    refine ops_nil ?_
    refine nR79 ?_
    refine run_seq ?_
    refine run_seq ?_
    refine run_region ?_
    refine ops_val (ex_move rfl) ?_
    refine ops_val (ex_move rfl) ?_
    have HB : Hp w0 w2 [] (s0.rows ++ []) := HB.all H2
    refine ops_call (ex_call gf14 rfl) (liveAppend_any s0 2048 0 _ HB.less.here hl.less hag (by omega) A b c (hrA.to0 HB) (fun h0 p hp hx => old_not HB.less (rd_lt hrA h0 hp) (fun hx => by cases hx) hx) (by omega)) ?_
    rintro r w3 ⟨hr1, s1, hp, hag, ho⟩
    rw [hr1]
    obtain ⟨_, _, hgb, hl, Hc⟩ := hp.more hl (lt_rest HB)
    have HB : Hp w0 w3 [] (s1.rows ++ []) := HB.front Hc
    have H3 := HB.here
    rw [← hgb] 
    have hu0 : used s0.W.recs = 0 := by rw [hrc]; rfl
    obtain ⟨hrc1, hfs1, _, _⟩ := ho.fits (by omega) (by rw [hu0]; unfold wgt; omega)
    rw [hrc, List.nil_append] at hrc1
    rw [hfs] at hfs1
    have hu1 : used s1.W.recs ≤ 7 := by rw [hrc1, used_one]; unfold wgt; omega
    refine ops_val (ex_not rfl) ?_
    refine nO79 ?_
    refine ops_val (ex_move rfl) ?_
    refine ops_yes rfl ?_
    refine ops_val (ex_move rfl) ?_
    refine nO79 ?_
    refine ops_yes rfl ?_
    refine ops_val (ex_move rfl) ?_
    refine ops_yes rfl ?_
    refine ops_make Try.underlying34 ty5 H3 rfl rfl (n := nb) (c := nb) (Nat.le_refl _) (by omega) (by omega) ?_
    intro w4 g30 H4 hg30
    replace hl : Live w4 s1 [((some g30, 5, List.replicate nb (.int .u8 0)) : Ent)] 2048 1 := hl.grow H4 rfl
    refine nO79 ?_
    refine ops_yes rfl ?_
    have HB : Hp w0 w4 [] (s1.rows ++ [((some g30, 5, List.replicate nb (.int .u8 0)) : Ent)]) := HB.all H4
    have hZl : (List.replicate nb 0 : Blk).length = nb := List.length_replicate ..
    have hcall := liveAppend_any s1 2048 1 _ HB.less.here hl.less hag (by omega) (hd (some g30)) (List.replicate nb 0 : Blk) nb (by rw [u8s_zero, List.length_replicate]; exact HB.rd (i := 8) (o := some g30) (xs := List.replicate nb (.int .u8 0)) (sp := []) (by rw [List.append_nil]; rfl) (by rw [List.length_replicate, Nat.mul_one]) (by decide)) (fun _ p hp hx => by simp only [hd, Option.map_some, Option.some.injEq] at hp; subst hp; exact row_not HB (i := 8) rfl (is := [0, 1, 2, 3, 4, 5, 6, 7]) (by decide) hx) (by rw [List.length_replicate]; omega)
    rw [hZl] at hcall
    refine ops_call (ex_call gf14 rfl) hcall ?_
    rintro r w5 ⟨hr1, s2, hp, hag, ho⟩
    rw [hr1]
    obtain ⟨_, _, hgb, hl, Hc⟩ := hp.more hl (lt_rest HB)
    have HB : Hp w0 w5 [] (s2.rows ++ [((some g30, 5, List.replicate nb (.int .u8 0)) : Ent)]) := HB.front Hc
    have H5 := HB.here
    rw [← hgb] 
    have hrc2 : s2.W.recs = s1.W.recs ++ ((if 16384 < nb then [] else [(List.replicate nb 0 : Blk)]) : List Blk) ∧ s2.W.first = s1.W.first := by
      by_cases hq : 16384 < nb
      · obtain ⟨h1, _⟩ := ho.long (by rw [hZl]; exact hq)
        rw [if_pos hq, List.append_nil, h1]; exact ⟨rfl, rfl⟩
      · obtain ⟨h1, h2, _⟩ := ho.fits (by rw [hZl]; omega) (by rw [hZl]; unfold wgt; omega)
        rw [if_neg hq]; exact ⟨h1, h2⟩
    obtain ⟨hrc2, hfs2⟩ := hrc2
    have hu2 : used s2.W.recs ≤ 300 := by
      rw [hrc2, used_append]
      by_cases hq : 16384 < nb
      · rw [if_pos hq]; show _ + 0 ≤ _; omega
      · rw [if_neg hq, used_one, hZl]; unfold wgt; omega
    refine ops_yes rfl ?_
    refine ops_val (ex_not rfl) ?_
    refine ops_val (ex_pick_f rfl rfl) ?_
    refine ops_val (ex_move rfl) ?_
    refine nO79 ?_
    refine ops_yes rfl ?_
    refine ops_val (ex_move rfl) ?_
    refine ops_yes rfl ?_
    have HB : Hp w0 w5 [] (s2.rows ++ [((some g30, 5, List.replicate nb (.int .u8 0)) : Ent)]) := HB.all H5
    refine ops_call (ex_call gf14 rfl) (liveAppend_any s2 2048 2 _ HB.less.here hl.less hag (by omega) none [] 0 (⟨rfl, fun _ h => (by cases h), fun _ => rfl⟩) (fun h0 => absurd h0 (by decide)) (by decide)) ?_
    rintro r w6 ⟨hr1, s3, hp, hag, ho⟩
    rw [hr1]
    obtain ⟨_, _, hgb, hl, Hc⟩ := hp.more hl (lt_rest HB)
    have HB : Hp w0 w6 [] (s3.rows ++ [((some g30, 5, List.replicate nb (.int .u8 0)) : Ent)]) := HB.front Hc
    have H6 := HB.here
    rw [← hgb] 
    obtain ⟨hrc3, hfs3, _, _⟩ := ho.fits (by decide) (by unfold wgt; simp only [List.length_nil]; omega)
    have hnx := hl.next
    refine nO79 ?_
    refine ops_yes rfl ?_
    refine ops_val (ex_not rfl) ?_
    refine ops_val (ex_pick_f rfl rfl) ?_
    refine ops_nil ?_
    refine nR79 ?_
    refine run_cond_false rfl ?_
    refine run_skip ?_
    refine run_seq ?_
    refine run_region ?_
    refine ops_val (ex_assign rfl) ?_
    refine ops_nil ?_
    refine nR79 ?_
    refine run_seq ?_
    refine run_seq ?_
    refine run_region ?_
    refine ops_val (ex_move rfl) ?_
    refine ops_test (ex_gtr rfl rfl) (fun hp40 => ?_) (fun hp40 => ?_)
    · have hlen : s3.W.recs.length = 2 := by rw [hrc3, hrc2, hrc1, if_pos (show 16384 < nb by omega)]; rfl
      refine ops_nil ?_
      refine nR79 ?_
      refine run_cond_true rfl ?_
      refine run_region ?_
      refine ops_val (ex_assign rfl) ?_
      refine ops_nil ?_
      refine nR79 ?_
      refine run_seq ?_
      refine run_region ?_
      refine ops_val (ex_move rfl) ?_
      refine ops_val (ex_nilCheck rfl) ?_
      refine ops_val (ex_fieldAddr fl31_1 rfl) ?_
      refine ops_val (ex_load ty28 rfl (H6.cell (i := 6) rfl rfl)) ?_
      refine nO79 ?_
      refine ops_call_val (ex_call gf15 rfl) (next_any s3.m.gv s3.W.first s3.W.recs.length s3.m.cr (hd s3.m.gr) _ (H6.cell (i := 3) rfl rfl) (H6.cell (i := 3) rfl rfl) (by omega)) ?_
      intro w7 Hd
      replace hl := hl.keep0 Hd
      have H7 := H6.callN Hd
      refine ops_val (ex_move rfl) ?_
      refine ops_true (ex_eql rfl rfl) (by omega) ?_
      refine ops_val (ex_move rfl) ?_
      refine nO79 ?_
      refine ops_yes rfl ?_
      refine ops_val (ex_move rfl) ?_
      refine ops_yes rfl ?_
      refine ops_val (ex_nilCheck rfl) ?_
      refine nO79 ?_
      refine ops_yes rfl ?_
      refine ops_val (ex_fieldAddr fl31_1 rfl) ?_
      refine ops_yes rfl ?_
      refine ops_val (ex_load ty28 rfl (H7.cell (i := 6) rfl rfl)) ?_
      refine nO79 ?_
      refine ops_yes rfl ?_
      have HB : Hp w0 w7 [] (s3.rows ++ [((some g30, 5, List.replicate nb (.int .u8 0)) : Ent)]) := HB.all H7
      have hwt := hl.wait
      have htn := hl.turn
      have hft := hl.first
      refine ops_call (ex_call gf16 rfl) (sync_all s3.m s3.D s3.W _ HB.less.less.here hl.ok.ok (by omega) (by omega) (by omega)) ?_
      rintro r w8 ⟨x, D4, W4, hr4, hres, hwp⟩
      obtain ⟨hx0, hrc4, hfs4, htd4, hwt4, q, hl, Hc⟩ := hl.sc (gone := 0) (by omega) (lt_rest2 HB) (Nat.zero_le _) hres hwp (by omega)
      rw [hr4, hx0]
      rw [List.drop_zero] at hrc4
      have HB : Hp w0 w8 [] ((⟨mv s3.m q, D4, W4, s3.k, s3.K⟩ : Sx).rows ++ [((some g30, 5, List.replicate nb (.int .u8 0)) : Ent)]) := HB.front2 Hc
      have H8 := HB.here
      refine ops_yes rfl ?_
      refine ops_true (ex_eql rfl rfl) (rfl) ?_
      refine ops_val (ex_pick_t rfl rfl) ?_
      refine ops_val (ex_move rfl) ?_
      refine nO79 ?_
      refine ops_yes rfl ?_
      refine ops_val (ex_move rfl) ?_
      refine ops_yes rfl ?_
      refine ops_val (ex_nilCheck rfl) ?_
      refine nO79 ?_
      refine ops_yes rfl ?_
      refine ops_val (ex_fieldAddr fl31_1 rfl) ?_
      refine ops_yes rfl ?_
      refine ops_val (ex_load ty28 rfl (H8.cell (i := 6) rfl rfl)) ?_
      refine nO79 ?_
      refine ops_yes rfl ?_
      refine ops_call (ex_call gf17 rfl) ((Rn.records_any (mv s3.m q) D4 W4 _ H8.less.less.here hl.ok.ok).d (fun _ _ hx => hx)) ?_
      rintro r w9 ⟨g9, cap, ys, sp, hr, hcap, hcs, hgn, hown, hsep, Hc⟩
      rw [hr]
      replace hl := hl.keep0 Hc
      have H9 := H8.call0 Hc
      refine ops_yes rfl ?_
      refine ops_val (ex_len_slice Try.underlying29 rfl) ?_
      refine nO79 ?_
      refine ops_yes rfl ?_
      refine ops_val (ex_move rfl) ?_
      refine ops_yes rfl ?_
      refine ops_true (ex_eql rfl rfl) (by rw [hrc4]; omega) ?_
      refine ops_val (ex_pick_t rfl rfl) ?_
      refine ops_val (ex_move rfl) ?_
      refine nO79 ?_
      refine ops_yes rfl ?_
      refine ops_val (ex_move rfl) ?_
      refine ops_yes rfl ?_
      refine ops_val (ex_nilCheck rfl) ?_
      refine nO79 ?_
      refine ops_yes rfl ?_
      refine ops_val (ex_fieldAddr fl31_1 rfl) ?_
      refine ops_yes rfl ?_
      refine ops_val (ex_load ty28 rfl (H9.cell (i := 6) rfl rfl)) ?_
      refine nO79 ?_
      refine ops_yes rfl ?_
      refine ops_call (ex_call gf17 rfl) ((Rn.records_any (mv s3.m q) D4 W4 _ H9.less.less.less.here hl.ok.ok).d (fun _ _ hx => hx)) ?_
      rintro r w10 ⟨g10, cap, ys, sp, hr, hcap, hcs, hgn, hown, hsep, Hc⟩
      rw [hr]
      replace hl := hl.keep0 Hc
      have H10 := H9.call0 Hc 
      have hln4 : W4.recs.length = s3.W.recs.length := by rw [hrc4]
      obtain ⟨gx, rfl⟩ := own_some H10 (i := 10) rfl (by omega)
      refine ops_yes rfl ?_
      refine ops_val (ex_move rfl) ?_
      refine nO79 ?_
      refine ops_yes rfl ?_
      refine ops_val (ex_sub rfl rfl (IntWalk.i64_in _ (by omega))) ?_
      refine ops_yes rfl ?_
      refine ops_val (ex_idx Try.underlying29 ty34 rfl rfl (i := 1) rfl (by omega) (Nat.mul_one _)) ?_
      refine nO79 ?_
      refine ops_yes rfl ?_
      obtain ⟨Bz, cz, hz⟩ := hown.last0 (sp := sp) (hrc4.trans hrc3) (i := 1) (by rw [hrc2, hrc1, if_pos (show 16384 < nb by omega)]; rfl)
      refine ops_val (ex_load ty34 rfl (H10.cell (i := 10) rfl hz)) ?_
      refine ops_yes rfl ?_
      refine ops_val (ex_len_slice Try.underlying34 rfl) ?_
      refine nO79 ?_
      refine ops_yes rfl ?_
      refine ops_true (ex_eql rfl rfl) (rfl) ?_
      refine ops_val (ex_pick_t rfl rfl) ?_
      refine ops_val (ex_assign rfl) ?_
      refine ops_nil ?_
      refine nR79 ?_
      refine run_ret ?_
      refine fin_ret1 rfl rfl ?_
      exact ⟨rfl, (HB.all H10).noRows⟩
    · have hlen : s3.W.recs.length = 3 := by rw [hrc3, hrc2, hrc1, if_neg (show ¬ 16384 < nb by omega)]; rfl
      refine ops_nil ?_
      refine nR79 ?_
      refine run_cond_false rfl ?_
      refine run_skip ?_
      refine run_seq ?_
      refine run_region ?_
      refine ops_val (ex_move rfl) ?_
      refine ops_val (ex_nilCheck rfl) ?_
      refine ops_val (ex_fieldAddr fl31_1 rfl) ?_
      refine ops_val (ex_load ty28 rfl (H6.cell (i := 6) rfl rfl)) ?_
      refine nO79 ?_
      refine ops_call_val (ex_call gf15 rfl) (next_any s3.m.gv s3.W.first s3.W.recs.length s3.m.cr (hd s3.m.gr) _ (H6.cell (i := 3) rfl rfl) (H6.cell (i := 3) rfl rfl) (by omega)) ?_
      intro w7 Hd
      replace hl := hl.keep0 Hd
      have H7 := H6.callN Hd
      refine ops_val (ex_move rfl) ?_
      refine ops_true (ex_eql rfl rfl) (by omega) ?_
      refine ops_val (ex_move rfl) ?_
      refine nO79 ?_
      refine ops_yes rfl ?_
      refine ops_val (ex_move rfl) ?_
      refine ops_yes rfl ?_
      refine ops_val (ex_nilCheck rfl) ?_
      refine nO79 ?_
      refine ops_yes rfl ?_
      refine ops_val (ex_fieldAddr fl31_1 rfl) ?_
      refine ops_yes rfl ?_
      refine ops_val (ex_load ty28 rfl (H7.cell (i := 6) rfl rfl)) ?_
      refine nO79 ?_
      refine ops_yes rfl ?_
      have HB : Hp w0 w7 [] (s3.rows ++ [((some g30, 5, List.replicate nb (.int .u8 0)) : Ent)]) := HB.all H7
      have hwt := hl.wait
      have htn := hl.turn
      have hft := hl.first
      refine ops_call (ex_call gf16 rfl) (sync_all s3.m s3.D s3.W _ HB.less.less.here hl.ok.ok (by omega) (by omega) (by omega)) ?_
      rintro r w8 ⟨x, D4, W4, hr4, hres, hwp⟩
      obtain ⟨hx0, hrc4, hfs4, htd4, hwt4, q, hl, Hc⟩ := hl.sc (gone := 0) (by omega) (lt_rest2 HB) (Nat.zero_le _) hres hwp (by omega)
      rw [hr4, hx0]
      rw [List.drop_zero] at hrc4
      have HB : Hp w0 w8 [] ((⟨mv s3.m q, D4, W4, s3.k, s3.K⟩ : Sx).rows ++ [((some g30, 5, List.replicate nb (.int .u8 0)) : Ent)]) := HB.front2 Hc
      have H8 := HB.here
      refine ops_yes rfl ?_
      refine ops_true (ex_eql rfl rfl) (rfl) ?_
      refine ops_val (ex_pick_t rfl rfl) ?_
      refine ops_val (ex_move rfl) ?_
      refine nO79 ?_
      refine ops_yes rfl ?_
      refine ops_val (ex_move rfl) ?_
      refine ops_yes rfl ?_
      refine ops_val (ex_nilCheck rfl) ?_
      refine nO79 ?_
      refine ops_yes rfl ?_
      refine ops_val (ex_fieldAddr fl31_1 rfl) ?_
      refine ops_yes rfl ?_
      refine ops_val (ex_load ty28 rfl (H8.cell (i := 6) rfl rfl)) ?_
      refine nO79 ?_
      refine ops_yes rfl ?_
      refine ops_call (ex_call gf17 rfl) ((Rn.records_any (mv s3.m q) D4 W4 _ H8.less.less.here hl.ok.ok).d (fun _ _ hx => hx)) ?_
      rintro r w9 ⟨g9, cap, ys, sp, hr, hcap, hcs, hgn, hown, hsep, Hc⟩
      rw [hr]
      replace hl := hl.keep0 Hc
      have H9 := H8.call0 Hc
      refine ops_yes rfl ?_
      refine ops_val (ex_len_slice Try.underlying29 rfl) ?_
      refine nO79 ?_
      refine ops_yes rfl ?_
      refine ops_val (ex_move rfl) ?_
      refine ops_yes rfl ?_
      refine ops_true (ex_eql rfl rfl) (by rw [hrc4]; omega) ?_
      refine ops_val (ex_pick_t rfl rfl) ?_
      refine ops_val (ex_move rfl) ?_
      refine nO79 ?_
      refine ops_yes rfl ?_
      refine ops_val (ex_move rfl) ?_
      refine ops_yes rfl ?_
      refine ops_val (ex_nilCheck rfl) ?_
      refine nO79 ?_
      refine ops_yes rfl ?_
      refine ops_val (ex_fieldAddr fl31_1 rfl) ?_
      refine ops_yes rfl ?_
      refine ops_val (ex_load ty28 rfl (H9.cell (i := 6) rfl rfl)) ?_
      refine nO79 ?_
      refine ops_yes rfl ?_
      refine ops_call (ex_call gf17 rfl) ((Rn.records_any (mv s3.m q) D4 W4 _ H9.less.less.less.here hl.ok.ok).d (fun _ _ hx => hx)) ?_
      rintro r w10 ⟨g10, cap, ys, sp, hr, hcap, hcs, hgn, hown, hsep, Hc⟩
      rw [hr]
      replace hl := hl.keep0 Hc
      have H10 := H9.call0 Hc 
      have hln4 : W4.recs.length = s3.W.recs.length := by rw [hrc4]
      obtain ⟨gx, rfl⟩ := own_some H10 (i := 10) rfl (by omega)
      refine ops_yes rfl ?_
      refine ops_val (ex_move rfl) ?_
      refine nO79 ?_
      refine ops_yes rfl ?_
      refine ops_val (ex_sub rfl rfl (IntWalk.i64_in _ (by omega))) ?_
      refine ops_yes rfl ?_
      refine ops_val (ex_idx Try.underlying29 ty34 rfl rfl (i := 2) rfl (by omega) (Nat.mul_one _)) ?_
      refine nO79 ?_
      refine ops_yes rfl ?_
      obtain ⟨Bz, cz, hz⟩ := hown.last0 (sp := sp) (hrc4.trans hrc3) (i := 2) (by rw [hrc2, hrc1, if_neg (show ¬ 16384 < nb by omega)]; rfl)
      refine ops_val (ex_load ty34 rfl (H10.cell (i := 10) rfl hz)) ?_
      refine ops_yes rfl ?_
      refine ops_val (ex_len_slice Try.underlying34 rfl) ?_
      refine nO79 ?_
      refine ops_yes rfl ?_
      refine ops_true (ex_eql rfl rfl) (rfl) ?_
      refine ops_val (ex_pick_t rfl rfl) ?_
      refine ops_val (ex_assign rfl) ?_
      refine ops_nil ?_
      refine nR79 ?_
      refine run_ret ?_
      refine fin_ret1 rfl rfl ?_
      exact ⟨rfl, (HB.all H10).noRows⟩
end Go.Proofs.Ytgkciibfpenjpaa
