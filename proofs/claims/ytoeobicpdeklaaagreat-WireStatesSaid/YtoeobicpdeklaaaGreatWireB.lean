/- Walks of layer 2, printed by wip/gen/codec.py. -/
import Derived.Test.YtoeobicpdeklaaaGreatNrm
import Derived.Test.YtoeobicpdeklaaaGreatWireA
namespace Go.Proofs.YtoeobicpdeklaaaGreat
open Go Go.RowKit
set_option linter.unusedVariables false
attribute [local irreducible] Still Ops Does Cd
set_option maxRecDepth 100000 in
set_option maxHeartbeats 4000000 in
theorem pstop_r (gp gr : Nat) (gb : Option Nat) (cb : Nat) (sb : List Value) (b : List UInt8) (i e : Nat) (w0 : World) (H0 : Hp w0 w0 (bl (pr gp gr gb cb sb b i e)) (pr gp gr gb cb sb b i e)) (hcb : b.length ≤ cb) (hbl : b.length ≤ 65536) (hi : i ≤ b.length) :
    Does Tryz.prog 63 #[.pointer (some ⟨gp, 0, none⟩)] w0 (fun r w' => r = .bool (decide (e ≠ 0)) ∧ Hp w0 w' (bl (pr gp gr gb cb sb b i e)) (pr gp gr gb cb sb b i e)) := by
  refine does_of Tryz.func63 Tryz.ntmps63 rfl ?_
  refine nR31 ?_
  have H := H0
  refine run_seq ?_
  refine run_region ?_
  refine ops_val (ex_assign rfl) ?_
  refine ops_nil ?_
  refine nR31 ?_
  refine run_seq ?_
  refine run_seq ?_
  refine run_region ?_
  refine ops_val (ex_move rfl) ?_
  refine ops_val (ex_nilCheck rfl) ?_
  refine ops_val (ex_fieldAddr fl80_0 rfl) ?_
  refine ops_val (ex_load ty78 rfl (H.cell (i := 0) rfl rfl)) ?_
  refine nO31 ?_
  refine ops_false (ex_eql_nil_ptr Tryz.underlying78 rfl) (by simp) ?_
  refine ops_nil ?_
  refine nR31 ?_
  refine run_cond_false rfl ?_
  refine run_skip ?_
  refine run_seq ?_
  refine run_region ?_
  refine ops_val (ex_move rfl) ?_
  refine ops_val (ex_nilCheck rfl) ?_
  refine ops_val (ex_fieldAddr fl80_0 rfl) ?_
  refine ops_val (ex_load ty78 rfl (H.cell (i := 0) rfl rfl)) ?_
  refine nO31 ?_
  refine ops_call_val (ex_call gf90 rfl) (fault_rd gr (hd gb) cb b i e _ (rdr_of H (j := 1) (k := 2) rfl rfl (by decide) hcb (by omega) hi)) ?_
  intro w1 Hd
  have H1 := H.call0 Hd
  refine ops_val (ex_move rfl) ?_
  refine ops_val (ex_extract rfl rfl) ?_
  refine ops_val (ex_extract rfl rfl) ?_
  refine nO31 ?_
  refine ops_val (ex_assign rfl) ?_
  refine ops_val (ex_assign rfl) ?_
  refine ops_nil ?_
  refine nR31 ?_
  refine run_seq ?_
  refine run_region ?_
  refine ops_val (ex_move rfl) ?_
  refine ops_test (ex_neq rfl rfl) (fun hp23 => ?_) (fun hp23 => ?_)
  · have he : e ≠ 0 := by omega
    refine ops_val (ex_move rfl) ?_
    refine nO31 ?_
    refine ops_no rfl ?_
    refine ops_no rfl ?_
    refine nO31 ?_
    refine ops_no rfl ?_
    refine ops_no rfl ?_
    refine nO31 ?_
    refine ops_no rfl ?_
    refine ops_val (ex_pick_t rfl rfl) ?_
    refine ops_val (ex_assign rfl) ?_
    refine ops_nil ?_
    refine nR31 ?_
    refine run_ret ?_
    refine fin_ret1 rfl rfl ?_
    exact ⟨by rw [decide_eq_true he], H1.pick [0, 1, 2] (by decide)⟩
  · have he : e = 0 := by omega
    refine ops_val (ex_move rfl) ?_
    refine nO31 ?_
    refine ops_yes rfl ?_
    refine ops_val (ex_move rfl) ?_
    refine ops_yes rfl ?_
    refine ops_val (ex_nilCheck rfl) ?_
    refine nO31 ?_
    refine ops_yes rfl ?_
    refine ops_val (ex_fieldAddr fl80_3 rfl) ?_
    refine ops_yes rfl ?_
    refine ops_val (ex_load ty32 rfl (H1.cell (i := 0) rfl rfl)) ?_
    refine nO31 ?_
    refine ops_yes rfl ?_
    refine ops_false (ex_neq rfl rfl) (by simp) ?_
    refine ops_val (ex_pick_f rfl rfl) ?_
    refine ops_val (ex_assign rfl) ?_
    refine ops_nil ?_
    refine nR31 ?_
    refine run_ret ?_
    refine fin_ret1 rfl rfl ?_
    exact ⟨by rw [decide_eq_false (by omega)], H1.pick [0, 1, 2] (by decide)⟩
set_option maxRecDepth 100000 in
set_option maxHeartbeats 4000000 in
theorem pint_r (gp gr go o : Nat) (gb : Option Nat) (cb : Nat) (sb : List Value) (b : List UInt8) (i e : Nat) (T : TypeId) (cs : List Value) (w0 : World) (H0 : Hp w0 w0 (bl (pr gp gr gb cb sb b i e ++ [(some go, T, cs)])) (pr gp gr gb cb sb b i e ++ [(some go, T, cs)])) (hcb : b.length ≤ cb) (hbl : b.length ≤ 65536) (hi : i ≤ b.length) (m : Nat) (hat : At cs o (zCs (List.replicate m .int))) (A : Option Addr) (c : Nat) (hm : m ≤ 1000000) (hA : Rd w0 A m 1 (ptrs go o m)) (hS : ∀ p, A = some p → p.block ∉ bl (pr gp gr gb cb sb b i e ++ [(some go, T, cs)])) :
    Does Tryz.prog 29 #[.pointer (some ⟨gp, 0, none⟩), .slice A m c] w0 (fun r w' => ∃ fd i1 e1 us, rdAll (List.replicate m .int) b i e = (fd, i1, e1) ∧ i1 ≤ b.length ∧ NFs w' w0.heap.size (pr gp gr gb cb sb b i1 e1 ++ [(some go, T, putAt cs o us)]) fd us ∧ Hp w0 w' (bl (pr gp gr gb cb sb b i e ++ [(some go, T, cs)])) (pr gp gr gb cb sb b i1 e1 ++ [(some go, T, putAt cs o us)])) := by
  refine does_of Tryz.func29 Tryz.ntmps29 rfl ?_
  refine nR35 ?_
  have H := H0
  refine run_seq ?_
  refine run_region ?_
  refine ops_val (ex_move rfl) ?_
  refine ops_val (ex_len_slice Tryz.underlying130 rfl) ?_
  refine ops_val (ex_move rfl) ?_
  refine ops_nil ?_
  refine nR35 ?_
  refine run_block ?_
  refine run_loop (fun n l w => ∃ (q : Nat) (y : Int) (i1 e1 : Nat) (us : List Value) (fd : List Fv), m - q = n ∧ Fits [some (.pointer (some ⟨gp, 0, none⟩)), none, none, none, none, none, some (.slice A m c), some (.int .i64 m), some (.int .i64 y), none, none, none, none, none, none, none, none, none, none, none, none, none, none, none, none, none, none, none, none, none, none, none, none, none, none] l ∧ y = q ∧ q ≤ m ∧ us.length = q ∧ rdAll (List.replicate q .int) b i e = (fd, i1, e1) ∧ i1 ≤ b.length ∧ NFs w w0.heap.size (pr gp gr gb cb sb b i1 e1 ++ [(some go, T, putAt cs o us)]) fd us ∧ Hp w0 w (bl (pr gp gr gb cb sb b i e ++ [(some go, T, cs)])) (pr gp gr gb cb sb b i1 e1 ++ [(some go, T, putAt cs o us)])) (m) ?_ ?_
  · exact ⟨0, _, i, e, [], [], rfl, (fs (fn (fn (fn (fn (fn (fs (fs (fs (fn (fn (fn (fn (fn (fn (fn (fn (fn (fn (fn (fn (fn (fn (fn (fn (fn (fn (fn (fn (fn (fn (fn (fn (fn (fn f0))))))))))))))))))))))))))))))))))), rfl, Nat.zero_le _, rfl, rfl, hi, FPs.nil, by rw [putAt_nil]; exact H⟩
  · rintro n l w1 ⟨q, y, i1, e1, us, fd, rfl, hfit, rfl, hq, hus, hrd, hi1, hF, H1⟩
    obtain ⟨j, rfl⟩ := hfit.open
    refine nR35 ?_
    clear hfit
    refine run_seq ?_
    refine run_region ?_
    refine ops_test (ex_lss rfl rfl) (fun hp9 => ?_) (fun hp9 => ?_)
    · have hql : q < m := by omega
      have hcq : cs[o + q]? = some (.int .i64 0) := hat q _ (zCs_rep hql)
      have hfit := lt_of_get hcq
      have hkeep := row_keep (cs := cs) hus (Nat.le_of_lt hfit)
      rw [hcq] at hkeep
      obtain ⟨pa, hpa⟩ := hA.some_ (by omega)
      subst hpa
      have HB := H1
      replace H1 := HB.here
      refine ops_nil ?_
      refine nR35 ?_
      refine run_seq ?_
      refine run_cond_true rfl ?_
      refine run_skip ?_
      refine run_seq ?_
      refine run_block ?_
      refine run_seq ?_
      refine run_region ?_
      refine ops_val (ex_idx Tryz.underlying130 ty82 rfl rfl rfl hql (Nat.mul_one _)) ?_
      refine ops_val (ex_load ty82 rfl ((hA.to (HB.all H1) hS).cells pa rfl q _ (ptrs_get hql))) ?_
      refine ops_val (ex_assign rfl) ?_
      refine ops_nil ?_
      refine nR35 ?_
      refine run_block ?_
      refine run_seq ?_
      refine run_region ?_
      refine ops_val (ex_move rfl) ?_
      have hk := pstop_r gp gr gb cb sb b i1 e1 _ (Hp.less (es := pr gp gr gb cb sb b i1 e1) (R := [(some go, T, putAt cs o us)]) H1).here hcb hbl hi1
      refine ops_call_val (ex_call gf63 rfl) hk ?_
      intro w2 Hd
      have H2 := Hp.front (R := [(some go, T, putAt cs o us)]) H1 Hd
      refine ops_val (ex_assign rfl) ?_
      refine ops_nil ?_
      refine nR35 ?_
      refine run_cond rfl (fun hb19 => ?_) (fun hb19 => ?_)
      · skip
        refine run_skip ?_
        refine run_nil (blk_normal ?_)
        refine run_nil (blk_normal ?_)
        refine run_region ?_
        refine ops_val (ex_add rfl rfl (IntWalk.i64_in _ (by omega))) ?_
        refine ops_val (ex_move rfl) ?_
        refine ops_nil ?_
        refine nR35 ?_
        refine run_nil (rnd_normal ?_)
        first
        | (have hb0 := hb19; simp only [decide_eq_true_eq] at hb0; have hbad := rdF_bad (k := .int) (b := b) (i := i1) (e := e1) (by simpa using hb0); exact ⟨m - (q + 1), by omega, q + 1, _, i1, e1, us ++ [Value.int .i64 0], _, rfl, (fs (fn (fn (fn (fn (fn (fs (fs (fs (fn (fn (fn (fn (fn (fn (fn (fn (fn (fn (fn (fn (fn (fn (fn (fn (fn (fn (fn (fn (fn (fn (fn (fn (fn (fn f0))))))))))))))))))))))))))))))))))), rfl, by omega, by simp [hus], rd_snoc hrd hbad, hi1, by rw [row_same hus hcq]; exact (hF.to H2).app (FPs.one ⟨rfl, by decide, by decide⟩), by rw [row_same hus hcq]; exact HB.all H2⟩)
        | (have hrow := row_snoc (cs := cs) (o := o) (v := Value.int .i64 (unz (numStep b i1 e1).1)) hus hfit; have HN := (show ∀ (wa wb : World) (SS : List Nat), Hp wa wb SS (pr gp gr gb cb sb b ((numStep b i1 e1).2.1) ((numStep b i1 e1).2.2) ++ [(some go, T, (putAt cs o us).set (o + q) (Value.int .i64 (unz (numStep b i1 e1).1)))]) → Hp wa wb SS (pr gp gr gb cb sb b ((numStep b i1 e1).2.1) ((numStep b i1 e1).2.2) ++ [(some go, T, putAt cs o (us ++ [Value.int .i64 (unz (numStep b i1 e1).1)]))]) from fun wa wb SS h => by rw [hrow] at h; exact h) _ _ _ H2; exact ⟨m - (q + 1), by omega, q + 1, _, _, _, us ++ [Value.int .i64 (unz (numStep b i1 e1).1)], _, rfl, (fs (fn (fn (fn (fn (fn (fs (fs (fs (fn (fn (fn (fn (fn (fn (fn (fn (fn (fn (fn (fn (fn (fn (fn (fn (fn (fn (fn (fn (fn (fn (fn (fn (fn (fn f0))))))))))))))))))))))))))))))))))), rfl, by omega, by simp [hus], rd_snoc hrd rfl, numStep_le hi1, (hF.to HN).app (FPs.one ⟨rfl, unz_ok (numStep_lt b i1 e1)⟩), HB.all HN⟩)
      · skip
        refine run_seq ?_
        refine run_region ?_
        refine ops_val (ex_move rfl) ?_
        refine ops_val (ex_nilCheck rfl) ?_
        refine ops_val (ex_fieldAddr fl80_0 rfl) ?_
        refine ops_val (ex_load ty78 rfl (H2.cell (i := 0) rfl rfl)) ?_
        refine nO35 ?_
        refine ops_false (ex_eql_nil_ptr Tryz.underlying78 rfl) (by simp) ?_
        refine ops_val (ex_assign rfl) ?_
        refine ops_nil ?_
        refine nR35 ?_
        refine run_cond_false rfl ?_
        refine run_region ?_
        refine ops_val (ex_move rfl) ?_
        refine ops_val (ex_move rfl) ?_
        refine ops_val (ex_nilCheck rfl) ?_
        refine ops_val (ex_fieldAddr fl80_0 rfl) ?_
        refine nO35 ?_
        refine ops_val (ex_load ty78 rfl (H2.cell (i := 0) rfl rfl)) ?_
        refine ops_call_val (ex_call gf66 rfl) (int_rd gr (hd gb) cb b i1 e1 _ (rdr_of H2 (j := 1) (k := 2) rfl rfl (by decide) hcb (by omega) hi1)) ?_
        intro w3 Hd
        have H3 := (H2.call1 (i := 1) rfl Hd).pick [0, 4, 2, 3] (by decide)
        refine ops_val (ex_nilCheck rfl) ?_
        refine ops_store1 ty3 H3 3 rfl rfl rfl rfl (by rw [putAt_len (by omega)]; omega) rfl ?_
        intro w4 H4
        refine ops_nil ?_
        refine nR35 ?_
        refine run_nil (blk_normal ?_)
        refine run_nil (blk_normal ?_)
        refine run_region ?_
        refine ops_val (ex_add rfl rfl (IntWalk.i64_in _ (by omega))) ?_
        refine ops_val (ex_move rfl) ?_
        refine ops_nil ?_
        refine nR35 ?_
        refine run_nil (rnd_normal ?_)
        first
        | (have hb0 := hb19; simp only [decide_eq_true_eq] at hb0; have hbad := rdF_bad (k := .int) (b := b) (i := i1) (e := e1) (by simpa using hb0); exact ⟨m - (q + 1), by omega, q + 1, _, i1, e1, us ++ [Value.int .i64 0], _, rfl, (fs (fn (fn (fn (fn (fn (fs (fs (fs (fn (fn (fn (fn (fn (fn (fn (fn (fn (fn (fn (fn (fn (fn (fn (fn (fn (fn (fn (fn (fn (fn (fn (fn (fn (fn f0))))))))))))))))))))))))))))))))))), rfl, by omega, by simp [hus], rd_snoc hrd hbad, hi1, by rw [row_same hus hcq]; exact (hF.to H4).app (FPs.one ⟨rfl, by decide, by decide⟩), by rw [row_same hus hcq]; exact HB.all H4⟩)
        | (have hrow := row_snoc (cs := cs) (o := o) (v := Value.int .i64 (unz (numStep b i1 e1).1)) hus hfit; have HN := (show ∀ (wa wb : World) (SS : List Nat), Hp wa wb SS (pr gp gr gb cb sb b ((numStep b i1 e1).2.1) ((numStep b i1 e1).2.2) ++ [(some go, T, (putAt cs o us).set (o + q) (Value.int .i64 (unz (numStep b i1 e1).1)))]) → Hp wa wb SS (pr gp gr gb cb sb b ((numStep b i1 e1).2.1) ((numStep b i1 e1).2.2) ++ [(some go, T, putAt cs o (us ++ [Value.int .i64 (unz (numStep b i1 e1).1)]))]) from fun wa wb SS h => by rw [hrow] at h; exact h) _ _ _ H4; exact ⟨m - (q + 1), by omega, q + 1, _, _, _, us ++ [Value.int .i64 (unz (numStep b i1 e1).1)], _, rfl, (fs (fn (fn (fn (fn (fn (fs (fs (fs (fn (fn (fn (fn (fn (fn (fn (fn (fn (fn (fn (fn (fn (fn (fn (fn (fn (fn (fn (fn (fn (fn (fn (fn (fn (fn f0))))))))))))))))))))))))))))))))))), rfl, by omega, by simp [hus], rd_snoc hrd rfl, numStep_le hi1, (hF.to HN).app (FPs.one ⟨rfl, unz_ok (numStep_lt b i1 e1)⟩), HB.all HN⟩)
    · have hqm : q = m := by omega
      subst hqm
      refine ops_nil ?_
      refine nR35 ?_
      refine run_seq ?_
      refine run_cond_false rfl ?_
      refine run_exit ?_
      refine rnd_exit ?_
      refine blk_exit ?_
      refine run_nil ?_
      refine fin_end0 rfl ?_
      exact ⟨fd, i1, e1, us, hrd, hi1, hF, H1⟩
set_option maxRecDepth 100000 in
set_option maxHeartbeats 4000000 in
theorem pflag_r (gp gr go o : Nat) (gb : Option Nat) (cb : Nat) (sb : List Value) (b : List UInt8) (i e : Nat) (T : TypeId) (cs : List Value) (w0 : World) (H0 : Hp w0 w0 (bl (pr gp gr gb cb sb b i e ++ [(some go, T, cs)])) (pr gp gr gb cb sb b i e ++ [(some go, T, cs)])) (hcb : b.length ≤ cb) (hbl : b.length ≤ 65536) (hi : i ≤ b.length) (hat : At cs o (zCs [.flag])) :
    Does Tryz.prog 30 #[.pointer (some ⟨gp, 0, none⟩), .pointer (some ⟨go, o, none⟩)] w0 (fun r w' => ∃ fd i1 e1 us, rdAll [.flag] b i e = (fd, i1, e1) ∧ i1 ≤ b.length ∧ NFs w' w0.heap.size (pr gp gr gb cb sb b i1 e1 ++ [(some go, T, putAt cs o us)]) fd us ∧ Hp w0 w' (bl (pr gp gr gb cb sb b i e ++ [(some go, T, cs)])) (pr gp gr gb cb sb b i1 e1 ++ [(some go, T, putAt cs o us)])) := by
  refine does_of Tryz.func30 Tryz.ntmps30 rfl ?_
  refine nR37 ?_
  have H := H0
  have hcq : cs[o]? = some (.bool false) := by have := hat 0 _ rfl; rwa [Nat.add_zero] at this
  have hfit := lt_of_get hcq
  refine run_block ?_
  refine run_seq ?_
  refine run_region ?_
  refine ops_val (ex_move rfl) ?_
  have hk := pstop_r gp gr gb cb sb b i e _ (Hp.less (es := pr gp gr gb cb sb b i e) (R := [(some go, T, cs)]) H).here hcb hbl hi
  refine ops_call_val (ex_call gf63 rfl) hk ?_
  intro w1 Hd
  have H1 := Hp.front (R := [(some go, T, cs)]) H Hd
  refine ops_val (ex_assign rfl) ?_
  refine ops_nil ?_
  refine nR37 ?_
  refine run_cond rfl (fun hb11 => ?_) (fun hb11 => ?_)
  · skip
    refine run_skip ?_
    refine run_nil (blk_normal ?_)
    refine run_nil ?_
    refine fin_end0 rfl ?_
    have hbad := rdF_bad (k := .flag) (b := b) (i := i) (e := e) (by simpa using hb11)
    have hrow := row_same (cs := cs) (us := []) (o := o) (q := 0) rfl hcq
    rw [putAt_nil] at hrow
    exact ⟨[.flag false], i, e, [.bool false], by rw [rdAll_one, hbad]; rfl, hi, FPs.one rfl, by rw [show [Value.bool false] = [] ++ [Value.bool false] from rfl, hrow]; exact H1⟩
  · skip
    refine run_seq ?_
    refine run_region ?_
    refine ops_val (ex_move rfl) ?_
    refine ops_val (ex_nilCheck rfl) ?_
    refine ops_val (ex_fieldAddr fl80_0 rfl) ?_
    refine ops_val (ex_load ty78 rfl (H1.cell (i := 0) rfl rfl)) ?_
    refine nO37 ?_
    refine ops_false (ex_eql_nil_ptr Tryz.underlying78 rfl) (by simp) ?_
    refine ops_val (ex_move rfl) ?_
    refine nO37 ?_
    refine ops_no rfl ?_
    refine ops_no rfl ?_
    refine nO37 ?_
    refine ops_no rfl ?_
    refine ops_val (ex_pick_f rfl rfl) ?_
    refine ops_val (ex_assign rfl) ?_
    refine ops_nil ?_
    refine nR37 ?_
    refine run_cond_false rfl ?_
    refine run_seq ?_
    refine run_region ?_
    refine ops_val (ex_move rfl) ?_
    refine ops_val (ex_nilCheck rfl) ?_
    refine ops_val (ex_fieldAddr fl80_0 rfl) ?_
    refine ops_val (ex_load ty78 rfl (H1.cell (i := 0) rfl rfl)) ?_
    refine nO37 ?_
    refine ops_false (ex_eql_nil_ptr Tryz.underlying78 rfl) (by simp) ?_
    refine ops_val (ex_assign rfl) ?_
    refine ops_nil ?_
    refine nR37 ?_
    refine run_cond_false rfl ?_
    refine run_region ?_
    refine ops_val (ex_move rfl) ?_
    refine ops_val (ex_move rfl) ?_
    refine ops_val (ex_nilCheck rfl) ?_
    refine ops_val (ex_fieldAddr fl80_0 rfl) ?_
    refine nO37 ?_
    refine ops_val (ex_load ty78 rfl (H1.cell (i := 0) rfl rfl)) ?_
    refine ops_call_val (ex_call gf67 rfl) (flag_rd gr (hd gb) cb b i e _ (rdr_of H1 (j := 1) (k := 2) rfl rfl (by decide) hcb (by omega) hi)) ?_
    intro w2 Hd
    have H2 := (H1.call1 (i := 1) rfl Hd).pick [0, 4, 2, 3] (by decide)
    refine ops_val (ex_nilCheck rfl) ?_
    refine ops_store1 ty4 H2 3 rfl rfl rfl rfl hfit rfl ?_
    intro w3 H3
    refine ops_nil ?_
    refine nR37 ?_
    refine run_nil (blk_normal ?_)
    refine run_nil ?_
    refine fin_end0 rfl ?_
    have hrow := (putAt_one (v := .bool (flagStep b i e).1) hfit).symm
    have HN := (show ∀ (wa wb : World) (SS : List Nat), Hp wa wb SS (pr gp gr gb cb sb b ((flagStep b i e).2.1) ((flagStep b i e).2.2) ++ [(some go, T, cs.set o (.bool (flagStep b i e).1))]) → Hp wa wb SS (pr gp gr gb cb sb b ((flagStep b i e).2.1) ((flagStep b i e).2.2) ++ [(some go, T, putAt cs o [.bool (flagStep b i e).1])]) from fun wa wb SS h => by rw [hrow] at h; exact h) _ _ _ H3
    exact ⟨_, _, _, [.bool (flagStep b i e).1], rfl, flagStep_bd hi, FPs.one rfl, HN⟩
theorem ops_call_rdt {P : Program} {ds : List Deferred} {Q : Post} {K : List Value → World → Prop} {all os : List Oper} {l : List Value} {w : World} {op : Op} {ty : TypeId} {pos : String} {af : Array Edge} {d : Tmp} {f : FuncId} {args : Array Value} {n : Nat} {X : Option Nat → Nat → List Value → World → Prop}
    (hx : Ex P l op ty w (.enter f args) w) (hc : Does P f args w fun r w' => ∃ g cap sp, r = .slice (hd g) n cap ∧ X g cap sp w')
    (h : ∀ w' g cap sp, X g cap sp w' → Ops P ds all K Q os (l.set d (.slice (hd g) n cap)) w') : Ops P ds all K Q (⟨some d, op, ty, pos, af, none⟩ :: os) l w :=
  ops_call hx hc fun r w' ⟨g, cap, sp, h1, h2⟩ => by rw [h1]; exact h w' g cap sp h2
set_option maxRecDepth 100000 in
set_option maxHeartbeats 4000000 in
theorem pbytes_r (gp gr go o : Nat) (gb : Option Nat) (cb : Nat) (sb : List Value) (b : List UInt8) (i e : Nat) (T : TypeId) (cs : List Value) (w0 : World) (H0 : Hp w0 w0 (bl (pr gp gr gb cb sb b i e ++ [(some go, T, cs)])) (pr gp gr gb cb sb b i e ++ [(some go, T, cs)])) (hcb : b.length ≤ cb) (hbl : b.length ≤ 65536) (hi : i ≤ b.length) (v : Value) (hv2 : FP w0 (fun _ => True) (.bytes []) v) (hcq : cs[o]? = some v) :
    Does Tryz.prog 43 #[.pointer (some ⟨gp, 0, none⟩), .pointer (some ⟨go, o, none⟩)] w0 (fun r w' => ∃ fd i1 e1 us, rdAll [.bytes] b i e = (fd, i1, e1) ∧ i1 ≤ b.length ∧ NFs w' w0.heap.size (pr gp gr gb cb sb b i1 e1 ++ [(some go, T, putAt cs o us)]) fd us ∧ Hp w0 w' (bl (pr gp gr gb cb sb b i e ++ [(some go, T, cs)])) (pr gp gr gb cb sb b i1 e1 ++ [(some go, T, putAt cs o us)])) := by
  refine does_of Tryz.func43 Tryz.ntmps43 rfl ?_
  refine nR35 ?_
  have H := H0
  have hfit := lt_of_get hcq
  refine run_block ?_
  refine run_seq ?_
  refine run_region ?_
  refine ops_val (ex_move rfl) ?_
  have hk := pstop_r gp gr gb cb sb b i e _ (Hp.less (es := pr gp gr gb cb sb b i e) (R := [(some go, T, cs)]) H).here hcb hbl hi
  refine ops_call_val (ex_call gf63 rfl) hk ?_
  intro w1 Hd
  have H1 := Hp.front (R := [(some go, T, cs)]) H Hd
  refine ops_val (ex_assign rfl) ?_
  refine ops_nil ?_
  refine nR35 ?_
  refine run_cond rfl (fun hb10 => ?_) (fun hb10 => ?_)
  · skip
    refine run_skip ?_
    refine run_nil (blk_normal ?_)
    refine run_nil ?_
    refine fin_end0 rfl ?_
    have hbad := rdF_bad (k := .bytes) (b := b) (i := i) (e := e) (by simpa using hb10)
    have hrow := row_same (cs := cs) (us := []) (o := o) (q := 0) rfl hcq
    rw [putAt_nil] at hrow
    exact ⟨[.bytes []], i, e, [v], by rw [rdAll_one, hbad]; rfl, hi, by rw [show [v] = [] ++ [v] from rfl, hrow]; exact FPs.one hv2.zero, by rw [show [v] = [] ++ [v] from rfl, hrow]; exact H1⟩
  · skip
    refine run_seq ?_
    refine run_region ?_
    refine ops_val (ex_move rfl) ?_
    refine ops_val (ex_nilCheck rfl) ?_
    refine ops_val (ex_fieldAddr fl80_0 rfl) ?_
    refine ops_val (ex_load ty78 rfl (H1.cell (i := 0) rfl rfl)) ?_
    refine nO35 ?_
    refine ops_true (ex_neq_nil_ptr Tryz.underlying78 rfl) (by simp) ?_
    refine ops_val (ex_assign rfl) ?_
    refine ops_nil ?_
    refine nR35 ?_
    refine run_cond_true rfl ?_
    refine run_region ?_
    refine ops_val (ex_move rfl) ?_
    refine ops_val (ex_move rfl) ?_
    refine ops_val (ex_nilCheck rfl) ?_
    refine ops_val (ex_fieldAddr fl80_0 rfl) ?_
    refine nO35 ?_
    refine ops_val (ex_load ty78 rfl (H1.cell (i := 0) rfl rfl)) ?_
    refine ops_call_rdt (ex_call gf74 rfl) (text_rd gr (hd gb) cb b i e _ (rdr_of H1 (j := 1) (k := 2) rfl rfl (by decide) hcb (by omega) hi) 65535 (by decide) (by decide)) ?_
    intro w2 g1 c1 s1 ⟨hm1, hc1, hg1, Hd⟩
    have hsz0 := H1.size
    have H2 := (H1.call1 (i := 1) rfl Hd).pick [0, 4, 2, 3, 5] (by decide)
    refine ops_val (ex_nilCheck rfl) ?_
    refine ops_store1 ty29 H2 3 rfl rfl rfl rfl hfit rfl ?_
    intro w3 H3
    refine ops_nil ?_
    refine nR35 ?_
    refine run_nil (blk_normal ?_)
    refine run_nil ?_
    refine fin_end0 rfl ?_
    have hrow := (putAt_one (v := (.slice (hd g1) (textStep b 65535 i e).1.length c1)) hfit).symm
    have HN := (show ∀ (wa wb : World) (SS : List Nat), Hp wa wb SS ((pr gp gr gb cb sb b ((textStep b 65535 i e).2.1) ((textStep b 65535 i e).2.2) ++ [(some go, T, cs.set o (.slice (hd g1) (textStep b 65535 i e).1.length c1))]) ++ [(g1, 5, u8s (textStep b 65535 i e).1 ++ s1)]) → Hp wa wb SS ((pr gp gr gb cb sb b ((textStep b 65535 i e).2.1) ((textStep b 65535 i e).2.2) ++ [(some go, T, putAt cs o [(.slice (hd g1) (textStep b 65535 i e).1.length c1)])]) ++ [(g1, 5, u8s (textStep b 65535 i e).1 ++ s1)]) from fun wa wb SS h => by rw [hrow] at h; exact h) _ _ _ H3
    exact ⟨_, _, _, [(.slice (hd g1) (textStep b 65535 i e).1.length c1)], rfl, (textStep_bd hi).1, FPs.one ⟨hd g1, c1, rfl, HN.rd (i := 4) (o := g1) (xs := u8s (textStep b 65535 i e).1) (sp := s1) rfl (u8s_length1 _) (by decide), fun _ p hp => ⟨Nat.le_trans hsz0 (fresh_row Hd (i := 0) rfl p hp), row_apart (es1 := pr gp gr gb cb sb b ((textStep b 65535 i e).2.1) ((textStep b 65535 i e).2.2) ++ [(some go, T, putAt cs o [(.slice (hd g1) (textStep b 65535 i e).1.length c1)])]) (R := [(g1, 5, u8s (textStep b 65535 i e).1 ++ s1)]) HN (i := 0) rfl p hp, HN.tw (i := 4) rfl p hp⟩⟩, HN.less⟩
set_option maxRecDepth 100000 in
set_option maxHeartbeats 4000000 in
theorem ptext_r (gp gr go o : Nat) (gb : Option Nat) (cb : Nat) (sb : List Value) (b : List UInt8) (i e : Nat) (T : TypeId) (cs : List Value) (w0 : World) (H0 : Hp w0 w0 (bl (pr gp gr gb cb sb b i e ++ [(some go, T, cs)])) (pr gp gr gb cb sb b i e ++ [(some go, T, cs)])) (hcb : b.length ≤ cb) (hbl : b.length ≤ 65536) (hi : i ≤ b.length) (m : Nat) (hat : At cs o (zCs (List.replicate m .text))) (A : Option Addr) (c : Nat) (hm : m ≤ 1000000) (hA : Rd w0 A m 1 (ptrs go o m)) (hS : ∀ p, A = some p → p.block ∉ bl (pr gp gr gb cb sb b i e ++ [(some go, T, cs)])) :
    Does Tryz.prog 31 #[.pointer (some ⟨gp, 0, none⟩), .slice A m c] w0 (fun r w' => ∃ fd i1 e1 us, rdAll (List.replicate m .text) b i e = (fd, i1, e1) ∧ i1 ≤ b.length ∧ NFs w' w0.heap.size (pr gp gr gb cb sb b i1 e1 ++ [(some go, T, putAt cs o us)]) fd us ∧ Hp w0 w' (bl (pr gp gr gb cb sb b i e ++ [(some go, T, cs)])) (pr gp gr gb cb sb b i1 e1 ++ [(some go, T, putAt cs o us)])) := by
  refine does_of Tryz.func31 Tryz.ntmps31 rfl ?_
  refine nR44 ?_
  have H := H0
  refine run_seq ?_
  refine run_region ?_
  refine ops_val (ex_move rfl) ?_
  refine ops_val (ex_len_slice Tryz.underlying134 rfl) ?_
  refine ops_val (ex_move rfl) ?_
  refine ops_nil ?_
  refine nR44 ?_
  refine run_block ?_
  refine run_loop (fun n l w => ∃ (q : Nat) (y : Int) (i1 e1 : Nat) (us : List Value) (fd : List Fv), m - q = n ∧ Fits [some (.pointer (some ⟨gp, 0, none⟩)), none, none, none, none, none, none, some (.slice A m c), some (.int .i64 m), some (.int .i64 y), none, none, none, none, none, none, none, none, none, none, none, none, none, none, none, none, none, none, none, none, none, none, none, none, none, none, none, none, none, none, none, none, none, none] l ∧ y = q ∧ q ≤ m ∧ us.length = q ∧ rdAll (List.replicate q .text) b i e = (fd, i1, e1) ∧ i1 ≤ b.length ∧ NFs w w0.heap.size (pr gp gr gb cb sb b i1 e1 ++ [(some go, T, putAt cs o us)]) fd us ∧ Hp w0 w (bl (pr gp gr gb cb sb b i e ++ [(some go, T, cs)])) (pr gp gr gb cb sb b i1 e1 ++ [(some go, T, putAt cs o us)])) (m) ?_ ?_
  · exact ⟨0, _, i, e, [], [], rfl, (fs (fn (fn (fn (fn (fn (fn (fs (fs (fs (fn (fn (fn (fn (fn (fn (fn (fn (fn (fn (fn (fn (fn (fn (fn (fn (fn (fn (fn (fn (fn (fn (fn (fn (fn (fn (fn (fn (fn (fn (fn (fn (fn (fn f0)))))))))))))))))))))))))))))))))))))))))))), rfl, Nat.zero_le _, rfl, rfl, hi, FPs.nil, by rw [putAt_nil]; exact H⟩
  · rintro n l w1 ⟨q, y, i1, e1, us, fd, rfl, hfit, rfl, hq, hus, hrd, hi1, hF, H1⟩
    obtain ⟨j, rfl⟩ := hfit.open
    refine nR44 ?_
    clear hfit
    refine run_seq ?_
    refine run_region ?_
    refine ops_test (ex_lss rfl rfl) (fun hp10 => ?_) (fun hp10 => ?_)
    · have hql : q < m := by omega
      have hcq : cs[o + q]? = some (.string ⟨([] : List UInt8).toArray⟩) := hat q _ (zCs_rep hql)
      have hfit := lt_of_get hcq
      have hkeep := row_keep (cs := cs) hus (Nat.le_of_lt hfit)
      rw [hcq] at hkeep
      obtain ⟨pa, hpa⟩ := hA.some_ (by omega)
      subst hpa
      have HB := H1
      replace H1 := HB.here
      have HB1 := HB
      refine ops_nil ?_
      refine nR44 ?_
      refine run_seq ?_
      refine run_cond_true rfl ?_
      refine run_skip ?_
      refine run_seq ?_
      refine run_block ?_
      refine run_seq ?_
      refine run_region ?_
      refine ops_val (ex_idx Tryz.underlying134 ty86 rfl rfl rfl hql (Nat.mul_one _)) ?_
      refine ops_val (ex_load ty86 rfl ((hA.to (HB.all H1) hS).cells pa rfl q _ (ptrs_get hql))) ?_
      refine ops_val (ex_assign rfl) ?_
      refine ops_nil ?_
      refine nR44 ?_
      refine run_seq ?_
      refine run_seq ?_
      refine run_region ?_
      refine ops_val (ex_move rfl) ?_
      refine ops_val (ex_nilCheck rfl) ?_
      refine ops_val (ex_fieldAddr fl80_0 rfl) ?_
      refine ops_val (ex_load ty78 rfl (H1.cell (i := 0) rfl rfl)) ?_
      refine nO44 ?_
      refine ops_false (ex_eql_nil_ptr Tryz.underlying78 rfl) (by simp) ?_
      refine ops_val (ex_move rfl) ?_
      refine nO44 ?_
      refine ops_no rfl ?_
      refine ops_no rfl ?_
      refine nO44 ?_
      refine ops_no rfl ?_
      refine ops_no rfl ?_
      refine nO44 ?_
      refine ops_no rfl ?_
      refine ops_val (ex_pick_f rfl rfl) ?_
      refine ops_nil ?_
      refine nR44 ?_
      refine run_cond_false rfl ?_
      refine run_skip ?_
      refine run_seq ?_
      refine run_region ?_
      refine ops_val (ex_move rfl) ?_
      refine ops_val (ex_nilCheck rfl) ?_
      refine ops_val (ex_load ty9 rfl (H1.cell (i := 3) rfl hkeep)) ?_
      have hgn := fresh_not H1 (g := w1.heap.size) (Nat.le_refl _)
      refine ops_strBytes Tryz.underlying9 Tryz.underlying29 Tryz.underlying5 H1 (s := []) rfl ?_
      intro w2 gs cs1 HB2 hrs hgs hsz
      replace hF := hF.to HB2
      replace HB := HB1.all HB2
      have H2 := HB.here
      refine nO44 ?_
      refine ops_alloc ty29 H2 ?_
      intro w3 gv H3 hgv
      refine ops_store1 ty29 H3 4 rfl rfl rfl rfl (by decide) rfl ?_
      intro w4 H4
      refine ops_nil ?_
      refine nR44 ?_
      refine run_seq ?_
      refine run_region ?_
      refine ops_val (ex_move rfl) ?_
      have HQ : Hp _ w4 _ ((pr gp gr gb cb sb b i1 e1 ++ [(some gv, 29, [Value.slice (some ⟨gs, 0, none⟩) ([] : List UInt8).length cs1])]) ++ [(some go, T, putAt cs o us)]) := H4.pick [0, 1, 2, 4, 3] (by decide)
      have hk := pbytes_r gp gr gv 0 gb cb sb b i1 e1 29 [Value.slice (some ⟨gs, 0, none⟩) ([] : List UInt8).length cs1] _ HQ.less.here hcb hbl hi1 _ ⟨_, _, rfl, ⟨rfl, fun _ _ _ _ hu => by simp [u8s] at hu, fun _ => rfl⟩, fun h0 => absurd h0 (by simp)⟩ rfl
      refine ops_call (ex_call gf43 rfl) hk ?_
      rintro _ w5 ⟨fdn, i2, e2, un, hrn, hi2, hFn, Hd⟩
      have hrn2 := rd1_bytes hrn
      obtain ⟨tx, hfn, hrt⟩ := hrn2
      subst hfn
      obtain ⟨vn, hun, hvn⟩ := hFn.head
      subst hun
      obtain ⟨Bn, cn, hvs, hrdn, hapn⟩ := hvn
      subst hvs
      have HX := HQ.front Hd
      have H5 : Hp _ w5 _ (pr gp gr gb cb sb b i2 e2 ++ [(some go, T, putAt cs o us), (some gv, 29, [Value.slice Bn tx.length cn])]) := HX.pick [0, 1, 2, 4, 3] (by decide)
      refine ops_nil ?_
      refine nR44 ?_
      refine run_seq ?_
      refine run_region ?_
      refine ops_val (ex_move rfl) ?_
      refine ops_val (ex_nilCheck rfl) ?_
      refine ops_val (ex_fieldAddr fl80_0 rfl) ?_
      refine ops_val (ex_load ty78 rfl (H5.cell (i := 0) rfl rfl)) ?_
      refine nO44 ?_
      refine ops_true (ex_neq_nil_ptr Tryz.underlying78 rfl) (by simp) ?_
      refine ops_nil ?_
      refine nR44 ?_
      refine run_cond_true rfl ?_
      refine run_region ?_
      refine ops_val (ex_move rfl) ?_
      refine ops_val (ex_load ty29 rfl (H5.cell (i := 4) rfl rfl)) ?_
      refine ops_val (ex_bytesStr Tryz.underlying29 Tryz.underlying5 Tryz.underlying9 rfl hrdn) ?_
      refine ops_val (ex_nilCheck rfl) ?_
      refine nO44 ?_
      refine ops_store1 ty9 H5 3 rfl rfl rfl rfl (by rw [putAt_len (by omega)]; omega) rfl ?_
      intro w6 H6
      refine ops_nil ?_
      refine nR44 ?_
      refine run_nil (blk_normal ?_)
      refine run_region ?_
      refine ops_val (ex_add rfl rfl (IntWalk.i64_in _ (by omega))) ?_
      refine ops_val (ex_move rfl) ?_
      refine ops_nil ?_
      refine nR44 ?_
      refine run_nil (rnd_normal ?_)
      have hrow := row_snoc (cs := cs) (o := o) (v := (.string ⟨tx.toArray⟩)) hus hfit
      have HN := (show ∀ (wa wb : World) (SS : List Nat), Hp wa wb SS ((pr gp gr gb cb sb b i2 e2 ++ [(some go, T, (putAt cs o us).set (o + q) (.string ⟨tx.toArray⟩))]) ++ [(some gv, 29, [Value.slice Bn tx.length cn])]) → Hp wa wb SS ((pr gp gr gb cb sb b i2 e2 ++ [(some go, T, putAt cs o (us ++ [(.string ⟨tx.toArray⟩)]))]) ++ [(some gv, 29, [Value.slice Bn tx.length cn])]) from fun wa wb SS h => by rw [hrow] at h; exact h) _ _ _ H6
      replace HN := HN.less
      exact ⟨m - (q + 1), by omega, q + 1, _, i2, e2, us ++ [(.string ⟨tx.toArray⟩)], _, rfl, (fs (fn (fn (fn (fn (fn (fn (fs (fs (fs (fn (fn (fn (fn (fn (fn (fn (fn (fn (fn (fn (fn (fn (fn (fn (fn (fn (fn (fn (fn (fn (fn (fn (fn (fn (fn (fn (fn (fn (fn (fn (fn (fn (fn f0)))))))))))))))))))))))))))))))))))))))))))), rfl, by omega, by simp [hus], rd_snoc hrd hrt, hi2, (hF.to HN).app (FPs.one (f := .text tx) (show _ = _ from rfl)), HB.all HN⟩
    · have hqm : q = m := by omega
      subst hqm
      refine ops_nil ?_
      refine nR44 ?_
      refine run_seq ?_
      refine run_cond_false rfl ?_
      refine run_exit ?_
      refine rnd_exit ?_
      refine blk_exit ?_
      refine run_nil ?_
      refine fin_end0 rfl ?_
      exact ⟨fd, i1, e1, us, hrd, hi1, hF, H1⟩
theorem pint_R : PenRs Tryz.prog 29 .int := fun gp gr gb cb sb b hcb hbl go o n c i e T cs w0 A hn H0 hi hat _ hA hS => (pint_r gp gr go o gb cb sb b i e T cs w0 H0 hcb hbl hi n hat A c hn hA hS).mono fun _ _ h => rdOut_of h
theorem ptext_R : PenRs Tryz.prog 31 .text := fun gp gr gb cb sb b hcb hbl go o n c i e T cs w0 A hn H0 hi hat _ hA hS => (ptext_r gp gr go o gb cb sb b i e T cs w0 H0 hcb hbl hi n hat A c hn hA hS).mono fun _ _ h => rdOut_of h
theorem pflag_R : PenR Tryz.prog 30 (Th.flat [.flag]) := fun gp gr gb cb sb b hcb hbl go o i e T cs w0 H0 hi hat _ => (pflag_r gp gr go o gb cb sb b i e T cs w0 H0 hcb hbl hi hat).mono fun _ _ h => rdOut_of h
theorem pbytes_R : PenR Tryz.prog 43 (Th.flat [.bytes]) := fun gp gr gb cb sb b hcb hbl go o i e T cs w0 H0 hi hat _ => (pbytes_r gp gr go o gb cb sb b i e T cs w0 H0 hcb hbl hi _ (zFP _ _ .bytes) (by have := hat 0 _ rfl; rwa [Nat.add_zero] at this)).mono fun _ _ h => rdOut_of h
end Go.Proofs.YtoeobicpdeklaaaGreat
