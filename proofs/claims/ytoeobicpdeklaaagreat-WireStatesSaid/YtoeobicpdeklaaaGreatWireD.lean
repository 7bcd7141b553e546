/- Walks of layer 2, printed by wip/gen/codec.py. -/
import Derived.Test.YtoeobicpdeklaaaGreatNrm
import Derived.Test.YtoeobicpdeklaaaGreatWireC
namespace Go.Proofs.YtoeobicpdeklaaaGreat
open Go Go.RowKit
set_option linter.unusedVariables false
attribute [local irreducible] Still Ops Does Cd
set_option maxRecDepth 100000 in
set_option maxHeartbeats 4000000 in
theorem vnum_r (gp gr go o : Nat) (gb : Option Nat) (cb : Nat) (sb : List Value) (b : List UInt8) (i e : Nat) (T : TypeId) (cs : List Value) (w0 : World) (H0 : Hp w0 w0 (bl (vr gp gr gb cb sb b i e ++ [(some go, T, cs)])) (vr gp gr gb cb sb b i e ++ [(some go, T, cs)])) (hcb : b.length ≤ cb) (hbl : b.length ≤ 65536) (hi : i ≤ b.length) (hat : At cs o (zCs [.int])) :
    Does Tryz.prog 48 #[.pointer (some ⟨gp, 0, none⟩), .pointer (some ⟨go, o, none⟩)] w0 (fun r w' => ∃ fd i1 e1 us, rdAll [.int] b i e = (fd, i1, e1) ∧ i1 ≤ b.length ∧ NFs w' w0.heap.size (vr gp gr gb cb sb b i1 e1 ++ [(some go, T, putAt cs o us)]) fd us ∧ Hp w0 w' (bl (vr gp gr gb cb sb b i e ++ [(some go, T, cs)])) (vr gp gr gb cb sb b i1 e1 ++ [(some go, T, putAt cs o us)])) := by
  refine does_of Tryz.func48 Tryz.ntmps48 rfl ?_
  refine nR28 ?_
  have H := H0
  have hcq := hat 0 _ rfl
  rw [Nat.add_zero] at hcq
  have hfit := lt_of_get hcq
  refine run_seq ?_
  refine run_seq ?_
  refine run_region ?_
  refine ops_val (ex_move rfl) ?_
  refine ops_val (ex_nilCheck rfl) ?_
  refine ops_val (ex_fieldAddr fl51_1 rfl) ?_
  refine ops_val (ex_load ty49 rfl (H.cell (i := 0) rfl rfl)) ?_
  refine nO28 ?_
  refine ops_false (ex_eql_nil_ptr Tryz.underlying49 rfl) (by simp) ?_
  refine ops_nil ?_
  refine nR28 ?_
  refine run_cond_false rfl ?_
  refine run_skip ?_
  refine run_region ?_
  refine ops_val (ex_move rfl) ?_
  refine ops_val (ex_move rfl) ?_
  refine ops_val (ex_nilCheck rfl) ?_
  refine ops_val (ex_fieldAddr fl51_1 rfl) ?_
  refine nO28 ?_
  refine ops_val (ex_load ty49 rfl (H.cell (i := 0) rfl rfl)) ?_
  refine ops_call_val (ex_call gf78 rfl) (intW_rd gr (hd gb) cb b i e _ (rdw_of H (j := 1) (k := 2) rfl rfl (by decide) hcb (by omega) hi)) ?_
  intro w1 Hd
  have H1 := (H.call1 (i := 1) rfl Hd).pick [0, 4, 2, 3] (by decide)
  refine ops_val (ex_nilCheck rfl) ?_
  refine ops_store1 ty3 H1 3 rfl rfl rfl rfl hfit rfl ?_
  intro w2 H2
  refine ops_nil ?_
  refine nR28 ?_
  refine run_nil ?_
  refine fin_end0 rfl ?_
  have hrow := (putAt_one (v := Value.int .i64 (unz (numStep b i e).1)) hfit).symm
  have HN := (show ∀ (wa wb : World) (SS : List Nat), Hp wa wb SS (vr gp gr gb cb sb b ((numStep b i e).2.1) ((numStep b i e).2.2) ++ [(some go, T, cs.set o (Value.int .i64 (unz (numStep b i e).1)))]) → Hp wa wb SS (vr gp gr gb cb sb b ((numStep b i e).2.1) ((numStep b i e).2.2) ++ [(some go, T, putAt cs o [Value.int .i64 (unz (numStep b i e).1)])]) from fun wa wb SS h => by rw [hrow] at h; exact h) _ _ _ H2
  exact ⟨_, _, _, [Value.int .i64 (unz (numStep b i e).1)], rfl, numStep_le hi, FPs.one (f := .int _) ⟨rfl, unz_ok (numStep_lt b i e)⟩, HN⟩
set_option maxRecDepth 100000 in
set_option maxHeartbeats 4000000 in
theorem vnums_r (gp gr go o : Nat) (gb : Option Nat) (cb : Nat) (sb : List Value) (b : List UInt8) (i e : Nat) (T : TypeId) (cs : List Value) (w0 : World) (H0 : Hp w0 w0 (bl (vr gp gr gb cb sb b i e ++ [(some go, T, cs)])) (vr gp gr gb cb sb b i e ++ [(some go, T, cs)])) (hcb : b.length ≤ cb) (hbl : b.length ≤ 65536) (hi : i ≤ b.length) (m : Nat) (hat : At cs o (zCs (List.replicate m .int))) (A : Option Addr) (c : Nat) (hm : m ≤ 1000000) (hA : Rd w0 A m 1 (ptrs go o m)) (hS : ∀ p, A = some p → p.block ∉ bl (vr gp gr gb cb sb b i e ++ [(some go, T, cs)])) :
    Does Tryz.prog 45 #[.pointer (some ⟨gp, 0, none⟩), .slice A m c] w0 (fun r w' => ∃ fd i1 e1 us, rdAll (List.replicate m .int) b i e = (fd, i1, e1) ∧ i1 ≤ b.length ∧ NFs w' w0.heap.size (vr gp gr gb cb sb b i1 e1 ++ [(some go, T, putAt cs o us)]) fd us ∧ Hp w0 w' (bl (vr gp gr gb cb sb b i e ++ [(some go, T, cs)])) (vr gp gr gb cb sb b i1 e1 ++ [(some go, T, putAt cs o us)])) := by
  refine does_of Tryz.func45 Tryz.ntmps45 rfl ?_
  refine nR17 ?_
  have H := H0
  refine run_seq ?_
  refine run_region ?_
  refine ops_val (ex_assign rfl) ?_
  refine ops_nil ?_
  refine nR17 ?_
  refine run_block ?_
  refine run_loop (fun n l w => ∃ (q : Nat) (y : Int) (i1 e1 : Nat) (us : List Value) (fd : List Fv), m - q = n ∧ Fits [some (.pointer (some ⟨gp, 0, none⟩)), some (.slice A m c), none, none, some (.int .i64 y), none, none, none, none, none, none, none, none, none, none, none, none] l ∧ y = q ∧ q ≤ m ∧ us.length = q ∧ rdAll (List.replicate q .int) b i e = (fd, i1, e1) ∧ i1 ≤ b.length ∧ NFs w w0.heap.size (vr gp gr gb cb sb b i1 e1 ++ [(some go, T, putAt cs o us)]) fd us ∧ Hp w0 w (bl (vr gp gr gb cb sb b i e ++ [(some go, T, cs)])) (vr gp gr gb cb sb b i1 e1 ++ [(some go, T, putAt cs o us)])) (m) ?_ ?_
  · exact ⟨0, _, i, e, [], [], rfl, (fs (fs (fn (fn (fs (fn (fn (fn (fn (fn (fn (fn (fn (fn (fn (fn (fn f0))))))))))))))))), rfl, Nat.zero_le _, rfl, rfl, hi, FPs.nil, by rw [putAt_nil]; exact H⟩
  · rintro n l w1 ⟨q, y, i1, e1, us, fd, rfl, hfit, rfl, hq, hus, hrd, hi1, hF, H1⟩
    obtain ⟨j, rfl⟩ := hfit.open
    refine nR17 ?_
    clear hfit
    refine run_seq ?_
    refine run_seq ?_
    refine run_region ?_
    refine ops_val (ex_move rfl) ?_
    refine ops_val (ex_move rfl) ?_
    refine ops_val (ex_len_slice Tryz.underlying130 rfl) ?_
    refine ops_test (ex_lss rfl rfl) (fun hp8 => ?_) (fun hp8 => ?_)
    · have hql : q < m := by omega
      have hcq : cs[o + q]? = some (.int .i64 0) := hat q _ (zCs_rep hql)
      have hfit := lt_of_get hcq
      have hkeep := row_keep (cs := cs) hus (Nat.le_of_lt hfit)
      rw [hcq] at hkeep
      obtain ⟨pa, hpa⟩ := hA.some_ (by omega)
      subst hpa
      refine ops_nil ?_
      refine nR17 ?_
      refine run_cond_true rfl ?_
      refine run_skip ?_
      refine run_seq ?_
      refine run_block ?_
      refine run_region ?_
      refine ops_val (ex_move rfl) ?_
      refine ops_val (ex_move rfl) ?_
      refine ops_val (ex_move rfl) ?_
      refine ops_val (ex_idx Tryz.underlying130 ty82 rfl rfl rfl hql (Nat.mul_one _)) ?_
      refine nO17 ?_
      refine ops_val (ex_load ty82 rfl ((hA.to H1 hS).cells pa rfl q _ (ptrs_get hql))) ?_
      have HB := H1.here
      have hk1 := vnum_r gp gr go (o + q) gb cb sb b i1 e1 T (putAt cs o us) _ HB hcb hbl hi1 (fun i u hu => by cases i with | zero => cases hu; exact hkeep | succ i => simp [zCs] at hu)
      refine ops_call (ex_call gf48 rfl) hk1 ?_
      rintro _ w2 ⟨fdn, i2, e2, un, hrn, hi2, hFn, Hd⟩
      obtain ⟨fq, hfq, hrf⟩ := rd1 hrn
      subst hfq
      obtain ⟨vn, hun, hvn⟩ := hFn.head
      subst hun
      have hpp := row_put (v := vn) hus hfit
      rw [hpp] at Hd hFn
      have hsz0 := H1.size
      replace hFn := FPs.mono (ok' := Fr w2 w0.heap.size (vr gp gr gb cb sb b i2 e2 ++ [(some go, T, putAt cs o (us ++ [vn]))])) hFn (fun p hp => ⟨Nat.le_trans hsz0 hp.1, hp.2⟩)
      have H2 := H1.all Hd
      refine ops_nil ?_
      refine nR17 ?_
      refine run_nil (blk_normal ?_)
      refine run_region ?_
      refine ops_val (ex_move rfl) ?_
      refine ops_val (ex_add rfl rfl (IntWalk.i64_in _ (by omega))) ?_
      refine ops_val (ex_assign rfl) ?_
      refine ops_nil ?_
      refine nR17 ?_
      refine run_nil (rnd_normal ?_)
      exact ⟨m - (q + 1), by omega, q + 1, _, i2, e2, us ++ [vn], _, rfl, (fs (fs (fn (fn (fs (fn (fn (fn (fn (fn (fn (fn (fn (fn (fn (fn (fn f0))))))))))))))))), rfl, by omega, by simp [hus], rd_snoc hrd hrf, hi2, (hF.to Hd).app hFn, H2⟩
    · have hqm : q = m := by omega
      subst hqm
      refine ops_nil ?_
      refine nR17 ?_
      refine run_cond_false rfl ?_
      refine run_exit ?_
      refine rnd_exit ?_
      refine blk_exit ?_
      refine run_nil ?_
      refine fin_end0 rfl ?_
      exact ⟨fd, i1, e1, us, hrd, hi1, hF, H1⟩
set_option maxRecDepth 100000 in
set_option maxHeartbeats 4000000 in
theorem vflag_r (gp gr go o : Nat) (gb : Option Nat) (cb : Nat) (sb : List Value) (b : List UInt8) (i e : Nat) (T : TypeId) (cs : List Value) (w0 : World) (H0 : Hp w0 w0 (bl (vr gp gr gb cb sb b i e ++ [(some go, T, cs)])) (vr gp gr gb cb sb b i e ++ [(some go, T, cs)])) (hcb : b.length ≤ cb) (hbl : b.length ≤ 65536) (hi : i ≤ b.length) (hat : At cs o (zCs [.flag])) :
    Does Tryz.prog 46 #[.pointer (some ⟨gp, 0, none⟩), .pointer (some ⟨go, o, none⟩)] w0 (fun r w' => ∃ fd i1 e1 us, rdAll [.flag] b i e = (fd, i1, e1) ∧ i1 ≤ b.length ∧ NFs w' w0.heap.size (vr gp gr gb cb sb b i1 e1 ++ [(some go, T, putAt cs o us)]) fd us ∧ Hp w0 w' (bl (vr gp gr gb cb sb b i e ++ [(some go, T, cs)])) (vr gp gr gb cb sb b i1 e1 ++ [(some go, T, putAt cs o us)])) := by
  refine does_of Tryz.func46 Tryz.ntmps46 rfl ?_
  refine nR30 ?_
  have H := H0
  have hcq := hat 0 _ rfl
  rw [Nat.add_zero] at hcq
  have hfit := lt_of_get hcq
  refine run_seq ?_
  refine run_seq ?_
  refine run_region ?_
  refine ops_val (ex_move rfl) ?_
  refine ops_val (ex_nilCheck rfl) ?_
  refine ops_val (ex_fieldAddr fl51_1 rfl) ?_
  refine ops_val (ex_load ty49 rfl (H.cell (i := 0) rfl rfl)) ?_
  refine nO30 ?_
  refine ops_true (ex_neq_nil_ptr Tryz.underlying49 rfl) (by simp) ?_
  refine ops_nil ?_
  refine nR30 ?_
  refine run_cond_true rfl ?_
  refine run_seq ?_
  refine run_region ?_
  refine ops_val (ex_move rfl) ?_
  refine ops_val (ex_move rfl) ?_
  refine ops_val (ex_nilCheck rfl) ?_
  refine ops_val (ex_fieldAddr fl51_1 rfl) ?_
  refine nO30 ?_
  refine ops_val (ex_load ty49 rfl (H.cell (i := 0) rfl rfl)) ?_
  refine ops_call_val (ex_call gf76 rfl) (flagW_rd gr (hd gb) cb b i e _ (rdw_of H (j := 1) (k := 2) rfl rfl (by decide) hcb (by omega) hi)) ?_
  intro w1 Hd
  have H1 := (H.call1 (i := 1) rfl Hd).pick [0, 4, 2, 3] (by decide)
  refine ops_val (ex_nilCheck rfl) ?_
  refine ops_store1 ty4 H1 3 rfl rfl rfl rfl hfit rfl ?_
  intro w2 H2
  refine ops_nil ?_
  refine nR30 ?_
  refine run_ret ?_
  refine fin_ret0 rfl ?_
  have hrow := (putAt_one (v := Value.bool (flagStep b i e).1) hfit).symm
  have HN := (show ∀ (wa wb : World) (SS : List Nat), Hp wa wb SS (vr gp gr gb cb sb b ((flagStep b i e).2.1) ((flagStep b i e).2.2) ++ [(some go, T, cs.set o (Value.bool (flagStep b i e).1))]) → Hp wa wb SS (vr gp gr gb cb sb b ((flagStep b i e).2.1) ((flagStep b i e).2.2) ++ [(some go, T, putAt cs o [Value.bool (flagStep b i e).1])]) from fun wa wb SS h => by rw [hrow] at h; exact h) _ _ _ H2
  exact ⟨_, _, _, [Value.bool (flagStep b i e).1], rfl, flagStep_bd hi, FPs.one (f := .flag _) (show _ = _ from rfl), HN⟩
set_option maxRecDepth 100000 in
set_option maxHeartbeats 4000000 in
theorem vbytes_r (gp gr go o : Nat) (gb : Option Nat) (cb : Nat) (sb : List Value) (b : List UInt8) (i e : Nat) (T : TypeId) (cs : List Value) (w0 : World) (H0 : Hp w0 w0 (bl (vr gp gr gb cb sb b i e ++ [(some go, T, cs)])) (vr gp gr gb cb sb b i e ++ [(some go, T, cs)])) (hcb : b.length ≤ cb) (hbl : b.length ≤ 65536) (hi : i ≤ b.length) (v : Value) (hv2 : FP w0 (fun _ => True) (.bytes []) v) (hcq : cs[o]? = some v) :
    Does Tryz.prog 55 #[.pointer (some ⟨gp, 0, none⟩), .pointer (some ⟨go, o, none⟩)] w0 (fun r w' => ∃ fd i1 e1 us, rdAll [.bytes] b i e = (fd, i1, e1) ∧ i1 ≤ b.length ∧ NFs w' w0.heap.size (vr gp gr gb cb sb b i1 e1 ++ [(some go, T, putAt cs o us)]) fd us ∧ Hp w0 w' (bl (vr gp gr gb cb sb b i e ++ [(some go, T, cs)])) (vr gp gr gb cb sb b i1 e1 ++ [(some go, T, putAt cs o us)])) := by
  refine does_of Tryz.func55 Tryz.ntmps55 rfl ?_
  refine nR47 ?_
  have H := H0
  have hfit := lt_of_get hcq
  refine run_seq ?_
  refine run_seq ?_
  refine run_region ?_
  refine ops_val (ex_move rfl) ?_
  refine ops_val (ex_nilCheck rfl) ?_
  refine ops_val (ex_fieldAddr fl51_1 rfl) ?_
  refine ops_val (ex_load ty49 rfl (H.cell (i := 0) rfl rfl)) ?_
  refine nO47 ?_
  refine ops_true (ex_neq_nil_ptr Tryz.underlying49 rfl) (by simp) ?_
  refine ops_nil ?_
  refine nR47 ?_
  refine run_cond_true rfl ?_
  refine run_seq ?_
  refine run_region ?_
  refine ops_val (ex_move rfl) ?_
  refine ops_val (ex_move rfl) ?_
  refine ops_val (ex_nilCheck rfl) ?_
  refine ops_val (ex_fieldAddr fl51_1 rfl) ?_
  refine nO47 ?_
  refine ops_val (ex_load ty49 rfl (H.cell (i := 0) rfl rfl)) ?_
  refine ops_call_rdt (ex_call gf86 rfl) (textW_rd gr (hd gb) cb b i e _ (rdw_of H (j := 1) (k := 2) rfl rfl (by decide) hcb (by omega) hi) 65535 (by decide) (by decide)) ?_
  intro w1 g1 c1 s1 ⟨hm1, hc1, hg1, Hd⟩
  have hsz0 := H.size
  have H1 := (H.call1 (i := 1) rfl Hd).pick [0, 4, 2, 3, 5] (by decide)
  refine ops_val (ex_nilCheck rfl) ?_
  refine ops_store1 ty29 H1 3 rfl rfl rfl rfl hfit rfl ?_
  intro w2 H2
  refine ops_nil ?_
  refine nR47 ?_
  refine run_ret ?_
  refine fin_ret0 rfl ?_
  have hrow := (putAt_one (v := (.slice (hd g1) (textStep b 65535 i e).1.length c1)) hfit).symm
  have HN := (show ∀ (wa wb : World) (SS : List Nat), Hp wa wb SS ((vr gp gr gb cb sb b ((textStep b 65535 i e).2.1) ((textStep b 65535 i e).2.2) ++ [(some go, T, cs.set o (.slice (hd g1) (textStep b 65535 i e).1.length c1))]) ++ [(g1, 5, u8s (textStep b 65535 i e).1 ++ s1)]) → Hp wa wb SS ((vr gp gr gb cb sb b ((textStep b 65535 i e).2.1) ((textStep b 65535 i e).2.2) ++ [(some go, T, putAt cs o [(.slice (hd g1) (textStep b 65535 i e).1.length c1)])]) ++ [(g1, 5, u8s (textStep b 65535 i e).1 ++ s1)]) from fun wa wb SS h => by rw [hrow] at h; exact h) _ _ _ H2
  exact ⟨_, _, _, [(.slice (hd g1) (textStep b 65535 i e).1.length c1)], rfl, (textStep_bd hi).1, FPs.one ⟨hd g1, c1, rfl, HN.rd (i := 4) (o := g1) (xs := u8s (textStep b 65535 i e).1) (sp := s1) rfl (u8s_length1 _) (by decide), fun _ p hp => ⟨Nat.le_trans hsz0 (fresh_row Hd (i := 0) rfl p hp), row_apart (es1 := vr gp gr gb cb sb b ((textStep b 65535 i e).2.1) ((textStep b 65535 i e).2.2) ++ [(some go, T, putAt cs o [(.slice (hd g1) (textStep b 65535 i e).1.length c1)])]) (R := [(g1, 5, u8s (textStep b 65535 i e).1 ++ s1)]) HN (i := 0) rfl p hp, HN.tw (i := 4) rfl p hp⟩⟩, HN.less⟩
set_option maxRecDepth 100000 in
set_option maxHeartbeats 4000000 in
theorem vtext_r (gp gr go o : Nat) (gb : Option Nat) (cb : Nat) (sb : List Value) (b : List UInt8) (i e : Nat) (T : TypeId) (cs : List Value) (w0 : World) (H0 : Hp w0 w0 (bl (vr gp gr gb cb sb b i e ++ [(some go, T, cs)])) (vr gp gr gb cb sb b i e ++ [(some go, T, cs)])) (hcb : b.length ≤ cb) (hbl : b.length ≤ 65536) (hi : i ≤ b.length) (hat : At cs o (zCs [.text])) :
    Does Tryz.prog 47 #[.pointer (some ⟨gp, 0, none⟩), .pointer (some ⟨go, o, none⟩)] w0 (fun r w' => ∃ fd i1 e1 us, rdAll [.text] b i e = (fd, i1, e1) ∧ i1 ≤ b.length ∧ NFs w' w0.heap.size (vr gp gr gb cb sb b i1 e1 ++ [(some go, T, putAt cs o us)]) fd us ∧ Hp w0 w' (bl (vr gp gr gb cb sb b i e ++ [(some go, T, cs)])) (vr gp gr gb cb sb b i1 e1 ++ [(some go, T, putAt cs o us)])) := by
  refine does_of Tryz.func47 Tryz.ntmps47 rfl ?_
  refine nR38 ?_
  have H := H0
  have hcq := hat 0 _ rfl
  rw [Nat.add_zero] at hcq
  have hfit := lt_of_get hcq
  refine run_seq ?_
  refine run_region ?_
  refine ops_alloc ty29 H ?_
  intro w1 gv H1 hgv
  refine ops_store1 ty29 H1 4 rfl rfl rfl rfl (by decide) rfl ?_
  intro w2 H2
  refine ops_nil ?_
  refine nR38 ?_
  refine run_seq ?_
  refine run_seq ?_
  refine run_region ?_
  refine ops_val (ex_move rfl) ?_
  refine ops_val (ex_nilCheck rfl) ?_
  refine ops_val (ex_fieldAddr fl51_1 rfl) ?_
  refine ops_val (ex_load ty49 rfl (H2.cell (i := 0) rfl rfl)) ?_
  refine nO38 ?_
  refine ops_false (ex_eql_nil_ptr Tryz.underlying49 rfl) (by simp) ?_
  refine ops_nil ?_
  refine nR38 ?_
  refine run_cond_false rfl ?_
  refine run_skip ?_
  refine run_seq ?_
  refine run_region ?_
  refine ops_val (ex_move rfl) ?_
  have HQ : Hp _ w2 _ ((vr gp gr gb cb sb b i e ++ [(some gv, 29, [Value.slice none 0 0])]) ++ [(some go, T, cs)]) := H2.pick [0, 1, 2, 4, 3] (by decide)
  have hk := vbytes_r gp gr gv 0 gb cb sb b i e 29 [Value.slice none 0 0] _ HQ.less.here hcb hbl hi _ (zFP _ _ .bytes) rfl
  refine ops_call (ex_call gf55 rfl) hk ?_
  rintro _ w3 ⟨fdn, i2, e2, un, hrn, hi2, hFn, Hd⟩
  have hrn2 := rd1_bytes hrn
  obtain ⟨tx, hfn, hrt⟩ := hrn2
  subst hfn
  obtain ⟨vn, hun, hvn⟩ := hFn.head
  subst hun
  obtain ⟨Bn, cn, hvs, hrdn, hapn⟩ := hvn
  subst hvs
  have HX := HQ.front Hd
  have H3 : Hp _ w3 _ (vr gp gr gb cb sb b i2 e2 ++ [(some go, T, cs), (some gv, 29, [Value.slice Bn tx.length cn])]) := HX.pick [0, 1, 2, 4, 3] (by decide)
  refine ops_nil ?_
  refine nR38 ?_
  refine run_region ?_
  refine ops_val (ex_move rfl) ?_
  refine ops_val (ex_load ty29 rfl (H3.cell (i := 4) rfl rfl)) ?_
  refine ops_val (ex_bytesStr Tryz.underlying29 Tryz.underlying5 Tryz.underlying9 rfl hrdn) ?_
  refine ops_val (ex_nilCheck rfl) ?_
  refine nO38 ?_
  refine ops_store1 ty9 H3 3 rfl rfl rfl rfl hfit rfl ?_
  intro w4 H4
  refine ops_nil ?_
  refine nR38 ?_
  refine run_nil ?_
  refine fin_end0 rfl ?_
  have hrow := (putAt_one (v := (.string ⟨tx.toArray⟩)) hfit).symm
  have HN := (show ∀ (wa wb : World) (SS : List Nat), Hp wa wb SS ((vr gp gr gb cb sb b i2 e2 ++ [(some go, T, cs.set o (.string ⟨tx.toArray⟩))]) ++ [(some gv, 29, [Value.slice Bn tx.length cn])]) → Hp wa wb SS ((vr gp gr gb cb sb b i2 e2 ++ [(some go, T, putAt cs o [(.string ⟨tx.toArray⟩)])]) ++ [(some gv, 29, [Value.slice Bn tx.length cn])]) from fun wa wb SS h => by rw [hrow] at h; exact h) _ _ _ H4
  replace HN := HN.less
  exact ⟨[.text tx], i2, e2, [(.string ⟨tx.toArray⟩)], by rw [rdAll_one, hrt], hi2, FPs.one (f := .text tx) (show _ = _ from rfl), HN⟩
theorem vnums_R : WalkRs Tryz.prog 45 .int := fun gp gr gb cb sb b hcb hbl go o n c i e T cs w0 A hn H0 hi hat _ hA hS => (vnums_r gp gr go o gb cb sb b i e T cs w0 H0 hcb hbl hi n hat A c hn hA hS).mono fun _ _ h => rdOut_of h
theorem vnum_R : WalkR Tryz.prog 48 (Th.flat [.int]) := fun gp gr gb cb sb b hcb hbl go o i e T cs w0 H0 hi hat _ => (vnum_r gp gr go o gb cb sb b i e T cs w0 H0 hcb hbl hi hat).mono fun _ _ h => rdOut_of h
theorem vflag_R : WalkR Tryz.prog 46 (Th.flat [.flag]) := fun gp gr gb cb sb b hcb hbl go o i e T cs w0 H0 hi hat _ => (vflag_r gp gr go o gb cb sb b i e T cs w0 H0 hcb hbl hi hat).mono fun _ _ h => rdOut_of h
theorem vtext_R : WalkR Tryz.prog 47 (Th.flat [.text]) := fun gp gr gb cb sb b hcb hbl go o i e T cs w0 H0 hi hat _ => (vtext_r gp gr go o gb cb sb b i e T cs w0 H0 hcb hbl hi hat).mono fun _ _ h => rdOut_of h
theorem vbytes_R : WalkR Tryz.prog 55 (Th.flat [.bytes]) := fun gp gr gb cb sb b hcb hbl go o i e T cs w0 H0 hi hat _ => (vbytes_r gp gr go o gb cb sb b i e T cs w0 H0 hcb hbl hi _ (zFP _ _ .bytes) (by have := hat 0 _ rfl; rwa [Nat.add_zero] at this)).mono fun _ _ h => rdOut_of h
end Go.Proofs.YtoeobicpdeklaaaGreat
