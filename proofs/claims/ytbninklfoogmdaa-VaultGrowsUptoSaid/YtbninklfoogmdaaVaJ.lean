/- Walks of layer 2, printed by wip/gen/codec.py. -/
import Derived.Test.YtbninklfoogmdaaNrm
import Derived.Test.YtbninklfoogmdaaVr
import Derived.Test.YtbninklfoogmdaaVaF
import Derived.Test.YtbninklfoogmdaaVaA
namespace Go.Proofs.Ytbninklfoogmdaa
open Go Go.RowKit
set_option linter.unusedVariables false
attribute [local irreducible] Still Ops Does Cd
set_option maxRecDepth 100000 in
set_option maxHeartbeats 4000000 in
theorem check_l (A : Option Addr) (k : Nat) (l : List Rt) (ok : Nat → Prop) (w0 : World) (hl : Sl RtR 4 w0 ok A l) (hn : l.length ≤ 1000000000000) (hso : rtsOk l) :
    Does Try.prog 24 #[.slice A l.length k] w0 (fun r w' => r = .int .i64 0 ∧ Hp w0 w' [] []) := by
  refine does_of Try.func24 Try.ntmps24 rfl ?_
  refine nR30 ?_
  have H := Hp.refl w0
  obtain ⟨ps, hp, hr, ha, h2⟩ := id hl
  have hlen := h2.len
  obtain ⟨hmays, hrise⟩ := rts_rise hso
  refine run_seq ?_
  refine run_region ?_
  refine ops_val (ex_assign rfl) ?_
  refine ops_nil ?_
  refine nR30 ?_
  refine run_seq ?_
  refine run_seq ?_
  refine run_region ?_
  refine ops_val (ex_move rfl) ?_
  refine ops_val (ex_len_slice Try.underlying25 rfl) ?_
  refine ops_val (ex_move rfl) ?_
  refine ops_nil ?_
  refine nR30 ?_
  refine run_block ?_
  refine run_loop (fun nQ lQ w => ∃ (i : Nat) (y : Int), l.length - i = nQ ∧ Fits [some (.slice A l.length k), none, none, none, none, some (.slice A l.length k), some (.int .i64 (l.length : Int)), some (.int .i64 y), none, none, none, none, none, none, none, none, none, none, none, none, none, none, none, none, none, none, none, none, none, none] lQ ∧ y = (i : Int) ∧ i ≤ l.length ∧ Hp w0 w [] []) (l.length) ?_ ?_
  · exact ⟨0, _, rfl, (fs (fn (fn (fn (fn (fs (fs (fs (fn (fn (fn (fn (fn (fn (fn (fn (fn (fn (fn (fn (fn (fn (fn (fn (fn (fn (fn (fn (fn (fn f0)))))))))))))))))))))))))))))), rfl, Nat.zero_le _, H⟩
  · rintro nQ lQ w1 ⟨i, y, rfl, hfit, rfl, hi, H1⟩
    obtain ⟨j, rfl⟩ := hfit.open
    refine nR30 ?_
    clear hfit
    refine run_seq ?_
    refine run_region ?_
    refine ops_test (ex_lss rfl rfl) (fun hp8 => ?_) (fun hp8 => ?_)
    · have hil : i < l.length := by omega
      obtain ⟨x, hx⟩ := get_of hil
      obtain ⟨p1, hp1, hR⟩ := h2.get hx
      unfold RtR at hR
      subst hR
      obtain ⟨a1, ha1⟩ := hr.some_ (by omega)
      subst ha1
      have hmay := hmays x (mem_of hx)
      refine ops_nil ?_
      refine nR30 ?_
      refine run_seq ?_
      refine run_cond_true rfl ?_
      refine run_skip ?_
      refine run_seq ?_
      refine run_block ?_
      refine run_seq ?_
      refine run_region ?_
      refine ops_val (ex_move rfl) ?_
      refine ops_val (ex_idx Try.underlying25 ty46 rfl rfl rfl hil rfl) ?_
      refine ops_val (ex_loadN ty46 rfl (vs := [.int .i64 x.g, strV x.key, .int .i64 x.lease, .int .i64 x.net]) rfl ((hr.to0 H1).elem hp hp1)) ?_
      refine ops_alloc ty46 H1 ?_
      intro w2 g2 H2 hg2
      refine nO30 ?_
      refine ops_val (ex_assign rfl) ?_
      refine ops_store ty46 H2 0 rfl rfl rfl rfl rfl (by first | decide | (simp; done) | simp [putAt]) rfl ?_
      intro w3 H3
      refine ops_nil ?_
      refine nR30 ?_
      refine run_seq ?_
      refine run_mixZ 16 [(true, 0), (false, 1), (true, 2), (true, 3), (true, 4), (true, 5), (true, 6), (true, 7), (true, 8), (true, 9), (true, 10), (true, 11), (true, 12), (false, 13), (true, 14), (true, 15), (false, 16)] H3 [0] mixed (by decide) (by kernel_rfl) ?_
      rintro w4 hw4
      have H4 := Hp.drew H3; rw [← hw4] at H4
      refine mixz_p rfl ?_
      refine mix1_val (fun wz hz => ex_loadN ty46 rfl (vs := [.int .i64 x.g, strV x.key, .int .i64 x.lease, .int .i64 x.net]) rfl (hz.cellsR (i := 0) rfl rfl)) ?_
      refine mixz_o rfl ?_
      refine ops_call_true (ex_call gf25 rfl) (may_l _ _) (hmay) ?_
      intro w5 Hd
      have H5 := H4.callN Hd
      refine ops_nil ?_
      refine ⟨fun hne => H5.pick [0] (by decide), ?_⟩
      refine nZ30 ?_
      refine mixz_p rfl ?_
      refine mix1_val (fun wz hz => ex_not rfl) ?_
      refine mixz_p rfl ?_
      refine mix1_val (fun wz hz => ex_move rfl) ?_
      refine mixz_p rfl ?_
      refine mix1_yes rfl ?_
      refine mix1_val (fun wz hz => ex_move rfl) ?_
      refine mixz_p rfl ?_
      refine mix1_yes rfl ?_
      refine mix1_test (fun wz hz => ex_gtr rfl rfl) (fun hp17 => ?_) (fun hp17 => ?_)
      · obtain ⟨y, hy⟩ := get_of (l := l) (j := i - 1) (by omega)
        obtain ⟨p2, hp2, hR2⟩ := h2.get hy
        unfold RtR at hR2
        subst hR2
        have hneg : ordR y x < 0 := ordR_lt.2 (hrise (i - 1) i y x (by omega) hy hx)
        refine mixz_p rfl ?_
        refine mix1_yes rfl ?_
        refine mix1_val (fun wz hz => ex_move rfl) ?_
        refine nZ30 ?_
        refine mixz_p rfl ?_
        refine mix1_yes rfl ?_
        refine mix1_val (fun wz hz => ex_move rfl) ?_
        refine mixz_p rfl ?_
        refine mix1_yes rfl ?_
        refine mix1_val (fun wz hz => ex_move rfl) ?_
        refine mixz_p rfl ?_
        refine mix1_yes rfl ?_
        refine mix1_val (fun wz hz => ex_sub rfl rfl (IntWalk.i64_in _ (by omega))) ?_
        refine mixz_p rfl ?_
        refine mix1_yes rfl ?_
        refine mix1_val (fun wz hz => ex_idx Try.underlying25 ty46 rfl rfl (len := l.length) (i := i - 1) (by omega) (by omega) rfl) ?_
        refine nZ30 ?_
        refine mixz_p rfl ?_
        refine mix1_yes rfl ?_
        refine mix1_val (fun wz hz => ex_loadN ty46 rfl (vs := [.int .i64 y.g, strV y.key, .int .i64 y.lease, .int .i64 y.net]) rfl ((hr.to0 hz).elem hp hp2)) ?_
        refine mixz_p rfl ?_
        refine mix1_yes rfl ?_
        refine mix1_val (fun wz hz => ex_loadN ty46 rfl (vs := [.int .i64 x.g, strV x.key, .int .i64 x.lease, .int .i64 x.net]) rfl (hz.cellsR (i := 0) rfl rfl)) ?_
        refine mixz_o rfl ?_
        refine ops_yes rfl ?_
        refine ops_call_val (ex_call gf28 rfl) (orderC y x _) ?_
        intro w6 Hd
        have H6 := H5.callN Hd
        refine ops_nil ?_
        refine ⟨fun hne => H6.pick [0] (by decide), ?_⟩
        refine nZ30 ?_
        refine mixz_p rfl ?_
        refine mix1_yes rfl ?_
        refine mix1_false (fun wz hz => ex_geq rfl rfl) (by omega) ?_
        refine mixz_p rfl ?_
        refine mix1_yes rfl ?_
        refine mix1_val (fun wz hz => ex_pick_t rfl rfl) ?_
        refine mixz_o rfl ?_
        refine ops_val (ex_pick_f rfl rfl) ?_
        refine ops_nil ?_
        refine ⟨fun hne => absurd rfl hne, ?_⟩
        refine nZ30 ?_
        refine mixz_nil ?_
        refine nR30 ?_
        refine run_cond_false rfl ?_
        refine run_skip ?_
        refine run_nil (blk_normal ?_)
        refine run_region ?_
        refine ops_val (ex_add rfl rfl (IntWalk.i64_in _ (by omega))) ?_
        refine ops_val (ex_move rfl) ?_
        refine ops_nil ?_
        refine nR30 ?_
        refine run_nil (rnd_normal ?_)
        exact ⟨l.length - (i + 1), by omega, i + 1, _, rfl, (fs (fn (fn (fn (fn (fs (fs (fs (fn (fn (fn (fn (fn (fn (fn (fn (fn (fn (fn (fn (fn (fn (fn (fn (fn (fn (fn (fn (fn (fn f0)))))))))))))))))))))))))))))), by omega, by omega, H6.noRows⟩
      · skip
        refine mixz_p rfl ?_
        refine mix1_yes rfl ?_
        refine mix1_val (fun wz hz => ex_move rfl) ?_
        refine nZ30 ?_
        refine mixz_p rfl ?_
        refine mix1_no rfl ?_
        refine mixz_p rfl ?_
        refine mix1_no rfl ?_
        refine nZ30 ?_
        refine mixz_p rfl ?_
        refine mix1_no rfl ?_
        refine mixz_p rfl ?_
        refine mix1_no rfl ?_
        refine nZ30 ?_
        refine mixz_p rfl ?_
        refine mix1_no rfl ?_
        refine mixz_p rfl ?_
        refine mix1_no rfl ?_
        refine nZ30 ?_
        refine mixz_o rfl ?_
        refine ops_no rfl ?_
        refine ops_nil ?_
        refine ⟨fun hne => H5.pick [0] (by decide), ?_⟩
        refine mixz_p rfl ?_
        refine mix1_no rfl ?_
        refine nZ30 ?_
        refine mixz_p rfl ?_
        refine mix1_yes rfl ?_
        refine mix1_val (fun wz hz => ex_pick_f rfl rfl) ?_
        refine mixz_o rfl ?_
        refine ops_val (ex_pick_f rfl rfl) ?_
        refine ops_nil ?_
        refine ⟨fun hne => absurd rfl hne, ?_⟩
        refine nZ30 ?_
        refine mixz_nil ?_
        refine nR30 ?_
        refine run_cond_false rfl ?_
        refine run_skip ?_
        refine run_nil (blk_normal ?_)
        refine run_region ?_
        refine ops_val (ex_add rfl rfl (IntWalk.i64_in _ (by omega))) ?_
        refine ops_val (ex_move rfl) ?_
        refine ops_nil ?_
        refine nR30 ?_
        refine run_nil (rnd_normal ?_)
        exact ⟨l.length - (i + 1), by omega, i + 1, _, rfl, (fs (fn (fn (fn (fn (fs (fs (fs (fn (fn (fn (fn (fn (fn (fn (fn (fn (fn (fn (fn (fn (fn (fn (fn (fn (fn (fn (fn (fn (fn f0)))))))))))))))))))))))))))))), by omega, by omega, H5.noRows⟩
    · skip
      refine ops_nil ?_
      refine nR30 ?_
      refine run_seq ?_
      refine run_cond_false rfl ?_
      refine run_exit ?_
      refine rnd_exit ?_
      refine blk_exit ?_
      refine run_seq ?_
      refine run_region ?_
      refine ops_val (ex_assign rfl) ?_
      refine ops_nil ?_
      refine nR30 ?_
      refine run_ret ?_
      refine fin_ret1 rfl rfl ?_
      exact ⟨rfl, H1.noRows⟩
set_option maxRecDepth 100000 in
set_option maxHeartbeats 16000000 in
theorem put_l (x : Rt) (A : Option Addr) (k : Nat) (l : List Rt) (ok : Nat → Prop) (w0 : World) (hl : Sl RtR 4 w0 ok A l) (hn : l.length ≤ 1000000000000) (hso : rtsOk l) :
    Does Try.prog 13 #[.slice A l.length k, .agg [.int .i64 x.g, strV x.key, .int .i64 x.lease, .int .i64 x.net].toArray] w0 (fun r w' => (mayR x → ∃ A' k', r = .tuple #[.slice A' (putRt l x).length k', .int .i64 0] ∧ Sl RtR 4 w' (fun b => w0.heap.size ≤ b) A' (putRt l x)) ∧ (¬ mayR x → r = .tuple #[.slice none 0 0, .int .i64 1]) ∧ Hp w0 w' [] []) := by
  refine does_of Try.func13 Try.ntmps13 rfl ?_
  refine nR34 ?_
  have H := Hp.refl w0
  obtain ⟨ps, hp, hr, ha, h2⟩ := id hl
  have hlen := h2.len
  obtain ⟨hmays, hrise⟩ := rts_rise hso
  have hon := h2.ones fun _ _ h => h.ones
  refine run_seq ?_
  refine run_region ?_
  refine ops_box rfl rfl H ?_
  intro w1 gx H1 _
  refine ops_val (ex_assign rfl) ?_
  refine ops_val (ex_assign rfl) ?_
  refine ops_nil ?_
  refine nR34 ?_
  refine run_seq ?_
  refine run_seq ?_
  refine run_region ?_
  refine ops_val (ex_move rfl) ?_
  refine ops_call_val (ex_call gf24 rfl) (check_l A k l ok _ (hl.toR H1 k0) hn hso) ?_
  intro w2 Hd
  have H2 := H1.callN Hd
  refine ops_false (ex_neq rfl rfl) (by decide) ?_
  refine ops_nil ?_
  refine nR34 ?_
  refine run_cond_false rfl ?_
  refine run_skip ?_
  refine run_seq ?_
  refine run_seq ?_
  refine run_region ?_
  refine ops_val (ex_loadN ty46 rfl (vs := [.int .i64 x.g, strV x.key, .int .i64 x.lease, .int .i64 x.net]) rfl (H2.cellsR (i := 0) rfl rfl)) ?_
  refine ops_call_test (ex_call gf25 rfl) (may_l _ _) (fun hp13 w3 Hd => ?_) (fun hp13 w3 Hd => ?_)
  · have H3 := H2.callN Hd
    refine ops_val (ex_not rfl) ?_
    refine ops_nil ?_
    refine nR34 ?_
    refine run_cond_false rfl ?_
    refine run_skip ?_
    refine run_seq ?_
    refine run_region ?_
    refine ops_val (ex_move rfl) ?_
    refine ops_call (ex_call gf26 rfl) (cloneR A l.length k ps.flatten _ (hr.to0 H3) (ones_flatten hon) (by omega)) ?_
    rintro _ w4 ⟨gv, cv, sv, rfl, hmv, hcv, hgv0, Hc⟩
    have hgf := row_new (ok := fun _ => False) Hc (i := 0) rfl (fun _ h => by cases h)
    have hsz1 := H3.size
    have H4 := H3.call0 Hc
    refine ops_val (ex_assign rfl) ?_
    refine ops_nil ?_
    refine nR34 ?_
    refine run_seq ?_
    refine run_region ?_
    refine ops_val (ex_move rfl) ?_
    refine ops_val (ex_loadN ty46 rfl (vs := [.int .i64 x.g, strV x.key, .int .i64 x.lease, .int .i64 x.net]) rfl (H4.cellsR (i := 0) rfl rfl)) ?_
    have hrs := H4.rd (i := 1) (xs := ps.flatten) (sp := sv) rfl hp.len (by decide)
    refine ops_call (ex_call gf27 rfl) (bsearchR (hd gv) cv ps l.length hlen 28 (rtC x) rfl (rtCf x) _ hp hrs (by omega) (cmp_right h2 (rise_rt hrise x))) ?_
    rintro _ w5 ⟨i, f, rfl, hfd, Hd⟩
    have H5 := H4.callN Hd
    refine ops_val (ex_move rfl) ?_
    refine nO34 ?_
    refine ops_val (ex_extract rfl rfl) ?_
    refine ops_val (ex_extract rfl rfl) ?_
    refine ops_val (ex_assign rfl) ?_
    refine ops_val (ex_assign rfl) ?_
    refine ops_nil ?_
    refine nR34 ?_
    refine run_seq ?_
    refine run_seq ?_
    refine run_region ?_
    refine ops_val (ex_move rfl) ?_
    refine ops_nil ?_
    refine nR34 ?_
    refine run_cond rfl (fun hb23 => ?_) (fun hb23 => ?_)
    · obtain ⟨pi, hpi, _⟩ := hfd.yes hb23
      have hil := lt_of_get hpi
      obtain ⟨gw, rfl⟩ := own_some H5 (i := 1) rfl (by rw [List.length_append, hp.len]; omega)
      subst hb23
      refine run_seq ?_
      refine run_region ?_
      refine ops_val (ex_move rfl) ?_
      refine ops_val (ex_move rfl) ?_
      refine ops_val (ex_loadN ty46 rfl (vs := [.int .i64 x.g, strV x.key, .int .i64 x.lease, .int .i64 x.net]) rfl (H5.cellsR (i := 0) rfl rfl)) ?_
      refine ops_val (ex_idxN Try.underlying25 ty46 rfl rfl rfl (by omega)) ?_
      refine nO34 ?_
      refine ops_store ty46 H5 1 rfl rfl rfl rfl rfl (by rw [List.length_append, hp.len]; show 0 + i * 4 + 4 ≤ _; omega) rfl ?_
      intro w6 H6
      rw [store_elem (sz := 4) (vs := rtC x) hp hil rfl] at H6
      replace H6 := H6.pick [0, 1] (by decide)
      refine ops_nil ?_
      refine nR34 ?_
      refine run_seq ?_
      refine run_region ?_
      refine ops_val (ex_move rfl) ?_
      refine ops_val (ex_assign rfl) ?_
      refine ops_val (ex_assign rfl) ?_
      refine ops_nil ?_
      refine nR34 ?_
      refine run_ret ?_
      refine fin_ret2 rfl rfl rfl ?_
      have hput := hfd.put (v := x) h2 (fun p x h => rtCf_eq h) (rise_rt hrise x)
      rw [← putRt_eq] at hput
      have HZ := H6
      rw [if_pos rfl] at hput
      refine ⟨fun _ => ⟨hd (some gw), cv, by rw [hput, List.length_set], ?_⟩, fun h => absurd hp13 h, H6.noRows⟩
      rw [hput]
      exact Sl.row HZ (i := 1) rfl (hp.set_len rfl) (by decide) (h2.set i rfl) (fun b hb => by
        rcases HZ.place (i := 1) (g := b) (by cases hb; rfl) with h | h
        · cases h
        · exact h)
    · subst hb23
      refine run_skip ?_
      refine run_seq ?_
      refine run_region ?_
      refine ops_val (ex_move rfl) ?_
      refine ops_val (ex_move rfl) ?_
      refine ops_val (ex_loadN ty46 rfl (vs := [.int .i64 x.g, strV x.key, .int .i64 x.lease, .int .i64 x.net]) rfl (H5.cellsR (i := 0) rfl rfl)) ?_
      refine ops_buildSlice Try.underlying25 ty46 H5 rfl (by decide) rfl ?_
      intro w6 g6 H6 hg6
      refine nO34 ?_
      refine ops_call (ex_call gf29 rfl) (insertR gv cv i _ l.length ps hlen (rtC x) sv _ (H6.pick [1] (by decide)).here hp hon (by omega) hcv hgv0 hfd.le (H6.at (i := 2) rfl) rfl rfl (row_not H6 (i := 2) (is := [1]) rfl (by decide)) (by omega)) ?_
      rintro _ w7 ⟨gw, cw, sw, rfl, hnw, hcw, hgw, Hd⟩
      rw [hlen]
      have H7 := (H6.callr [1] rfl Hd).pick [0, 3] (by decide)
      refine ops_val (ex_assign rfl) ?_
      refine ops_val (ex_assign rfl) ?_
      refine ops_nil ?_
      refine nR34 ?_
      refine run_ret ?_
      refine fin_ret2 rfl rfl rfl ?_
      have hput := hfd.put (v := x) h2 (fun p x h => rtCf_eq h) (rise_rt hrise x)
      rw [← putRt_eq] at hput
      have HZ := H7
      rw [if_neg (by decide)] at hput
      have hle := hfd.le
      have hil3 : (l.take i ++ x :: l.drop i).length = l.length + 1 := by rw [List.length_append, List.length_cons, List.length_take, List.length_drop]; omega
      refine ⟨fun _ => ⟨hd gw, cw, by rw [hput, hil3], ?_⟩, fun h => absurd hp13 h, H7.noRows⟩
      rw [hput]
      exact Sl.row HZ (i := 1) rfl ((hp.sub fun x hx => List.mem_of_mem_take hx).app fun x hx => by
        rcases List.mem_cons.1 hx with rfl | hx
        · rfl
        · exact hp x (List.mem_of_mem_drop hx)) (by decide) ((h2.take i).app ⟨rfl, h2.drop i⟩) (fun b hb => by
        rcases HZ.place (i := 1) (g := b) (by cases hb; rfl) with h | h
        · cases h
        · exact h)
  · have H3 := H2.callN Hd
    refine ops_val (ex_not rfl) ?_
    refine ops_nil ?_
    refine nR34 ?_
    refine run_cond_true rfl ?_
    refine run_seq ?_
    refine run_region ?_
    refine ops_val (ex_assign rfl) ?_
    refine ops_val (ex_assign rfl) ?_
    refine ops_nil ?_
    refine nR34 ?_
    refine run_ret ?_
    refine fin_ret2 rfl rfl rfl ?_
    exact ⟨fun h => absurd h hp13, fun _ => rfl, H3.noRows⟩
set_option maxRecDepth 100000 in
set_option maxHeartbeats 4000000 in
theorem check_s (A : Option Addr) (k : Nat) (l : List Mk) (ok : Nat → Prop) (w0 : World) (hl : Sl MkR 7 w0 ok A l) (hn : l.length ≤ 1000000000000) (hso : mksOk 0 l) :
    Does Try.prog 30 #[.slice A l.length k] w0 (fun r w' => r = .int .i64 0 ∧ Hp w0 w' [] []) := by
  refine does_of Try.func30 Try.ntmps30 rfl ?_
  refine nR49 ?_
  have H := Hp.refl w0
  obtain ⟨ps, hp, hr, ha, h2⟩ := id hl
  have hlen := h2.len
  obtain ⟨hfit2, hrise⟩ := mks_rise hso
  refine run_seq ?_
  refine run_region ?_
  refine ops_val (ex_assign rfl) ?_
  refine ops_nil ?_
  refine nR49 ?_
  refine run_seq ?_
  refine run_region ?_
  refine ops_val (ex_assign rfl) ?_
  refine ops_nil ?_
  refine nR49 ?_
  refine run_seq ?_
  refine run_seq ?_
  refine run_region ?_
  refine ops_val (ex_move rfl) ?_
  refine ops_val (ex_len_slice Try.underlying26 rfl) ?_
  refine ops_val (ex_move rfl) ?_
  refine ops_nil ?_
  refine nR49 ?_
  refine run_block ?_
  refine run_loop (fun nQ lQ w => ∃ (i : Nat) (y m : Int), l.length - i = nQ ∧ Fits [none, none, none, some (.int .i64 m), none, none, some (.slice A l.length k), some (.int .i64 (l.length : Int)), some (.int .i64 y), none, none, none, none, none, none, none, none, none, none, none, none, none, none, none, none, none, none, none, none, none, none, none, none, none, none, none, none, none, none, none, none, none, none, none, none, none, none, none, none] lQ ∧ y = (i : Int) ∧ i ≤ l.length ∧ mksOk m (l.drop i) ∧ Hp w0 w [] []) (l.length) ?_ ?_
  · exact ⟨0, _, 0, rfl, (fn (fn (fn (fs (fn (fn (fs (fs (fs (fn (fn (fn (fn (fn (fn (fn (fn (fn (fn (fn (fn (fn (fn (fn (fn (fn (fn (fn (fn (fn (fn (fn (fn (fn (fn (fn (fn (fn (fn (fn (fn (fn (fn (fn (fn (fn (fn (fn (fn f0))))))))))))))))))))))))))))))))))))))))))))))))), rfl, Nat.zero_le _, hso, H⟩
  · rintro nQ lQ w1 ⟨i, y, m, rfl, hfit, rfl, hi, hinv, H1⟩
    obtain ⟨j, rfl⟩ := hfit.open
    refine nR49 ?_
    clear hfit
    refine run_seq ?_
    refine run_region ?_
    refine ops_test (ex_lss rfl rfl) (fun hp9 => ?_) (fun hp9 => ?_)
    · have hil : i < l.length := by omega
      obtain ⟨x, hx⟩ := get_of hil
      obtain ⟨p1, hp1, hR⟩ := h2.get hx
      unfold MkR at hR
      subst hR
      obtain ⟨a1, ha1⟩ := hr.some_ (by omega)
      subst ha1
      rw [drop_cons hx] at hinv
      obtain ⟨hm1, hm2, hm3, hm4, hm5⟩ := hinv
      refine ops_nil ?_
      refine nR49 ?_
      refine run_seq ?_
      refine run_cond_true rfl ?_
      refine run_skip ?_
      refine run_seq ?_
      refine run_block ?_
      refine run_seq ?_
      refine run_region ?_
      refine ops_val (ex_idx Try.underlying26 ty62 rfl rfl rfl hil rfl) ?_
      refine ops_val (ex_loadN ty62 rfl (vs := [.int .i64 x.client, .int .i64 x.seq, .bool false, .int .i64 0, .int .i64 0, .int .i64 0, .int .i64 0]) rfl ((hr.to0 H1).elem hp hp1)) ?_
      refine ops_alloc ty62 H1 ?_
      intro w2 g2 H2 hg2
      refine ops_store ty62 H2 0 rfl rfl rfl rfl rfl (by first | decide | (simp; done) | simp [putAt]) rfl ?_
      intro w3 H3
      refine ops_nil ?_
      refine nR49 ?_
      refine run_seq ?_
      refine run_seq ?_
      refine run_region ?_
      refine ops_val (ex_fieldAddr fl62_0 rfl) ?_
      refine ops_val (ex_load ty3 rfl (H3.cell (i := 0) rfl rfl)) ?_
      refine ops_val (ex_move rfl) ?_
      refine ops_false (ex_leq rfl rfl) (by omega) ?_
      refine nO49 ?_
      refine ops_val (ex_move rfl) ?_
      refine ops_yes rfl ?_
      refine ops_val (ex_fieldAddr fl62_0 rfl) ?_
      refine nO49 ?_
      refine ops_yes rfl ?_
      refine ops_val (ex_load ty3 rfl (H3.cell (i := 0) rfl rfl)) ?_
      refine ops_yes rfl ?_
      refine ops_false (ex_gtr rfl rfl) (by omega) ?_
      refine ops_val (ex_pick_f rfl rfl) ?_
      refine ops_val (ex_move rfl) ?_
      refine nO49 ?_
      refine ops_yes rfl ?_
      refine ops_val (ex_fieldAddr fl62_1 rfl) ?_
      refine ops_yes rfl ?_
      refine ops_val (ex_load ty3 rfl (H3.cell (i := 0) rfl rfl)) ?_
      refine nO49 ?_
      refine ops_yes rfl ?_
      refine ops_false (ex_lss rfl rfl) (by omega) ?_
      refine ops_val (ex_pick_f rfl rfl) ?_
      refine ops_val (ex_move rfl) ?_
      refine nO49 ?_
      refine ops_yes rfl ?_
      refine ops_val (ex_fieldAddr fl62_1 rfl) ?_
      refine ops_yes rfl ?_
      refine ops_val (ex_load ty3 rfl (H3.cell (i := 0) rfl rfl)) ?_
      refine nO49 ?_
      refine ops_yes rfl ?_
      refine ops_false (ex_gtr rfl rfl) (by omega) ?_
      refine ops_val (ex_pick_f rfl rfl) ?_
      refine ops_val (ex_move rfl) ?_
      refine nO49 ?_
      refine ops_yes rfl ?_
      refine ops_val (ex_fieldAddr fl62_2 rfl) ?_
      refine ops_yes rfl ?_
      refine ops_val (ex_load ty4 rfl (H3.cell (i := 0) rfl rfl)) ?_
      refine nO49 ?_
      refine ops_yes rfl ?_
      refine ops_val (ex_move rfl) ?_
      refine ops_no rfl ?_
      refine nO49 ?_
      refine ops_no rfl ?_
      refine ops_no rfl ?_
      refine nO49 ?_
      refine ops_no rfl ?_
      refine ops_no rfl ?_
      refine nO49 ?_
      refine ops_no rfl ?_
      refine ops_no rfl ?_
      refine nO49 ?_
      refine ops_no rfl ?_
      refine ops_no rfl ?_
      refine nO49 ?_
      refine ops_yes rfl ?_
      refine ops_val (ex_pick_f rfl rfl) ?_
      refine ops_val (ex_pick_f rfl rfl) ?_
      refine ops_nil ?_
      refine nR49 ?_
      refine run_cond_false rfl ?_
      refine run_skip ?_
      refine run_region ?_
      refine ops_val (ex_fieldAddr fl62_0 rfl) ?_
      refine ops_val (ex_load ty3 rfl (H3.cell (i := 0) rfl rfl)) ?_
      refine ops_val (ex_assign rfl) ?_
      refine ops_nil ?_
      refine nR49 ?_
      refine run_nil (blk_normal ?_)
      refine run_region ?_
      refine ops_val (ex_add rfl rfl (IntWalk.i64_in _ (by omega))) ?_
      refine ops_val (ex_move rfl) ?_
      refine ops_nil ?_
      refine nR49 ?_
      refine run_nil (rnd_normal ?_)
      exact ⟨l.length - (i + 1), by omega, i + 1, _, x.client, rfl, (fn (fn (fn (fs (fn (fn (fs (fs (fs (fn (fn (fn (fn (fn (fn (fn (fn (fn (fn (fn (fn (fn (fn (fn (fn (fn (fn (fn (fn (fn (fn (fn (fn (fn (fn (fn (fn (fn (fn (fn (fn (fn (fn (fn (fn (fn (fn (fn (fn f0))))))))))))))))))))))))))))))))))))))))))))))))), by omega, by omega, hm5, H3.noRows⟩
    · skip
      refine ops_nil ?_
      refine nR49 ?_
      refine run_seq ?_
      refine run_cond_false rfl ?_
      refine run_exit ?_
      refine rnd_exit ?_
      refine blk_exit ?_
      refine run_seq ?_
      refine run_region ?_
      refine ops_val (ex_assign rfl) ?_
      refine ops_nil ?_
      refine nR49 ?_
      refine run_ret ?_
      refine fin_ret1 rfl rfl ?_
      exact ⟨rfl, H1.noRows⟩
end Go.Proofs.Ytbninklfoogmdaa
