/- Walks of layer 2, printed by wip/gen/codec.py. -/
import Derived.Test.YtgkciibfpenjpaaNrm
import Derived.Test.YtgkciibfpenjpaaLx
namespace Go.Proofs.Ytgkciibfpenjpaa
open Go Go.RowKit
set_option linter.unusedVariables false
attribute [local irreducible] Still Ops Does Cd
set_option maxRecDepth 100000 in
set_option maxHeartbeats 8000000 in
theorem walCuts_any (A : Option Addr) (zs : List Value) (bs : List Blk) (c : Nat) (A1 : Option Addr) (xs : List Int) (c1 : Nat) (w0 : World) (hA : Rd w0 A bs.length 1 zs) (hL : Lsw w0 [] zs bs) (hA1 : Rd w0 A1 xs.length 1 (i64s xs)) :
    Does Try.prog 5 #[.slice A bs.length c, .slice A1 xs.length c1] w0 (fun r w' => r = .bool true ∧ Hp w0 w' [] []) := by
  refine does_of Try.func5 Try.ntmps5 rfl ?_
  refine nR161 ?_
  have H := Hp.refl w0
  refine run_seq ?_
  refine run_region ?_
  refine ops_val (ex_assign rfl) ?_
  refine ops_nil ?_
  refine nR161 ?_
  refine run_seq ?_
  refine run_region ?_
  refine ops_call (ex_call gf9 rfl) (liveBegin_any 2048 _ (by decide) (by decide)) ?_
  rintro r w1 ⟨s0, hr, hl, hag, hrc, hfs, htd, hka, hkf, Hc⟩
  rw [hr]
  have HB : Hp w0 w1 [] (s0.rows ++ []) := by rw [List.append_nil]; exact (H.call0 Hc).right
  have H1 := HB.here
  refine ops_val (ex_assign rfl) ?_
  refine ops_nil ?_
  refine nR161 ?_
  refine run_seq ?_
  refine run_seq ?_
  refine run_region ?_
  refine ops_call_val (ex_call gf10 rfl) (awake_any _) ?_
  intro w2 Hd
  replace hl := hl.keep0 Hd
  have H2 := H1.callN Hd
  refine ops_val (ex_not rfl) ?_
  refine ops_val (ex_move rfl) ?_
  refine nO161 ?_
  refine ops_yes rfl ?_
  refine ops_val (ex_move rfl) ?_
  refine ops_yes rfl ?_
  refine ops_false (ex_eql_nil_ptr Try.underlying24 rfl) (by simp) ?_
  refine ops_val (ex_pick_f rfl rfl) ?_
  refine ops_nil ?_
  refine nR161 ?_
  refine run_cond_false rfl ?_
  refine run_skip ?_
  refine run_seq ?_
  refine run_seq ?_
  refine run_region ?_
  refine ops_val (ex_assign rfl) ?_
  refine ops_nil ?_
  refine nR161 ?_
  refine run_block ?_
  refine run_loop (fun n l w => ∃ (i : Nat) (y : Int) (s : Sx), 30 - i = n ∧ Fits [some (.slice A bs.length c), some (.slice A1 xs.length c1), none, none, none, some (.pointer (some ⟨s0.k.gb, 0, none⟩)), some (.int .i64 y), none, none, none, none, none, none, none, none, none, none, none, none, none, none, none, none, none, none, none, none, none, none, none, none, none, none, none, none, none, none, none, none, none, none, none, none, none, none, none, none, none, none, none, none, none, none, none, none, none, none, none, none, none, none, none, none, none, none, none, none, none, none, none, none, none, none, none, none, none, none, none, none, none, none, none, none, none, none, none, none, none, none, none, none, none, none, none, none, none, none, none, none, none, none, none, none, none, none, none, none, none, none, none, none, none, none, none, none, none, none, none, none, none, none, none, none, none, none, none, none, none, none, none, none, none, none, none, none, none, none, none, none, none, none, none, none, none, none, none, none, none, none, none, none, none, none, none, none, none, none, none, none, none, none] l ∧ y = (i : Int) ∧ i ≤ 30 ∧ s.k.gb = s0.k.gb ∧ Live w s [] 2048 i ∧ Agr s.W s.K ∧ Hp w0 w [] (s.rows ++ [])) (30) ?_ ?_
  · exact ⟨0, _, s0, rfl, (fs (fs (fn (fn (fn (fs (fs (fn (fn (fn (fn (fn (fn (fn (fn (fn (fn (fn (fn (fn (fn (fn (fn (fn (fn (fn (fn (fn (fn (fn (fn (fn (fn (fn (fn (fn (fn (fn (fn (fn (fn (fn (fn (fn (fn (fn (fn (fn (fn (fn (fn (fn (fn (fn (fn (fn (fn (fn (fn (fn (fn (fn (fn (fn (fn (fn (fn (fn (fn (fn (fn (fn (fn (fn (fn (fn (fn (fn (fn (fn (fn (fn (fn (fn (fn (fn (fn (fn (fn (fn (fn (fn (fn (fn (fn (fn (fn (fn (fn (fn (fn (fn (fn (fn (fn (fn (fn (fn (fn (fn (fn (fn (fn (fn (fn (fn (fn (fn (fn (fn (fn (fn (fn (fn (fn (fn (fn (fn (fn (fn (fn (fn (fn (fn (fn (fn (fn (fn (fn (fn (fn (fn (fn (fn (fn (fn (fn (fn (fn (fn (fn (fn (fn (fn (fn (fn (fn (fn (fn (fn (fn f0))))))))))))))))))))))))))))))))))))))))))))))))))))))))))))))))))))))))))))))))))))))))))))))))))))))))))))))))))))))))))))))))))))))))))))))))))))))))))))))))), rfl, Nat.zero_le _, rfl, hl, hag, HB.all H2⟩
  · rintro n l w3 ⟨i, y, s, rfl, hfit, rfl, hi, hgb, hl, hag, H3⟩
    obtain ⟨j, rfl⟩ := hfit.open
    refine nR161 ?_
    clear hfit
    have HB := H3
    replace H3 := HB.here
    rw [← hgb]
    refine run_seq ?_
    refine run_seq ?_
    refine run_region ?_
    refine ops_val (ex_move rfl) ?_
    refine ops_val (ex_move rfl) ?_
    refine ops_val (ex_len_slice Try.underlying29 rfl) ?_
    refine ops_test (ex_lss rfl rfl) (fun hp21 => ?_) (fun hp21 => ?_)
    · have hix : i < bs.length := by omega
      obtain ⟨Be, ce, hzi, hrd, _⟩ := hL.2 i hix
      refine ops_val (ex_move rfl) ?_
      refine nO161 ?_
      refine ops_yes rfl ?_
      refine ops_val (ex_move rfl) ?_
      refine ops_yes rfl ?_
      refine ops_test (ex_lss rfl rfl) (fun hp24 => ?_) (fun hp24 => ?_)
      · have him : i < 30 := by omega
        obtain ⟨pa, rfl⟩ := hA.some_ (by omega)
        refine ops_val (ex_pick_t rfl rfl) ?_
        refine ops_nil ?_
        refine nR161 ?_
        refine run_cond_true rfl ?_
        refine run_skip ?_
        refine run_seq ?_
        refine run_block ?_
        refine run_seq ?_
        refine run_region ?_
        refine ops_val (ex_move rfl) ?_
        refine ops_val (ex_move rfl) ?_
        refine ops_val (ex_idx Try.underlying29 ty34 rfl rfl rfl hix (Nat.mul_one _)) ?_
        refine ops_val (ex_load ty34 rfl ((hA.to0 (HB.all H3)).cells pa rfl i _ hzi)) ?_
        refine nO161 ?_
        refine ops_val (ex_len_slice Try.underlying34 rfl) ?_
        refine ops_test (ex_leq rfl rfl) (fun hp33 => ?_) (fun hp33 => ?_)
        · have h300 : bs[i].length ≤ 300 := by omega
          refine ops_val (ex_move rfl) ?_
          refine nO161 ?_
          refine ops_yes rfl ?_
          refine ops_val (ex_move rfl) ?_
          refine ops_yes rfl ?_
          refine ops_val (ex_move rfl) ?_
          refine nO161 ?_
          refine ops_yes rfl ?_
          refine ops_val (ex_move rfl) ?_
          refine ops_yes rfl ?_
          refine ops_val (ex_idx Try.underlying29 ty34 rfl rfl rfl hix (Nat.mul_one _)) ?_
          refine nO161 ?_
          refine ops_yes rfl ?_
          refine ops_val (ex_load ty34 rfl ((hA.to0 (HB.all H3)).cells pa rfl i _ hzi)) ?_
          refine ops_yes rfl ?_
          have HB : Hp w0 w3 [] (s.rows ++ []) := HB.all H3
          refine ops_call (ex_call gf14 rfl) (liveAppend_any s 2048 i _ HB.less.here hl.less hag (by omega) Be bs[i] ce (hrd.to0 HB) (fun h0 p hp hx => old_not HB.less (rd_lt hrd h0 hp) (fun hx => by cases hx) hx) (by omega)) ?_
          rintro r w4 ⟨hr1, s1, hp, hag, ho⟩
          rw [hr1]
          obtain ⟨_, _, hgb, hl, Hc⟩ := hp.more hl (lt_rest HB)
          have HB : Hp w0 w4 [] (s1.rows ++ []) := HB.front Hc
          have H4 := HB.here
          rw [← hgb]
          refine nO161 ?_
          refine ops_yes rfl ?_
          refine ops_val (ex_not rfl) ?_
          refine ops_val (ex_pick_t rfl rfl) ?_
          refine ops_nil ?_
          refine nR161 ?_
          refine run_cond_false rfl ?_
          refine run_skip ?_
          refine run_nil (blk_normal ?_)
          refine run_region ?_
          refine ops_val (ex_move rfl) ?_
          refine ops_val (ex_add rfl rfl (IntWalk.i64_in _ (by omega))) ?_
          refine ops_val (ex_assign rfl) ?_
          refine ops_nil ?_
          refine nR161 ?_
          refine run_nil (rnd_normal ?_)
          exact ⟨30 - (i + 1), by omega, i + 1, _, s1, rfl, (fs (fs (fn (fn (fn (fs (fs (fn (fn (fn (fn (fn (fn (fn (fn (fn (fn (fn (fn (fn (fn (fn (fn (fn (fn (fn (fn (fn (fn (fn (fn (fn (fn (fn (fn (fn (fn (fn (fn (fn (fn (fn (fn (fn (fn (fn (fn (fn (fn (fn (fn (fn (fn (fn (fn (fn (fn (fn (fn (fn (fn (fn (fn (fn (fn (fn (fn (fn (fn (fn (fn (fn (fn (fn (fn (fn (fn (fn (fn (fn (fn (fn (fn (fn (fn (fn (fn (fn (fn (fn (fn (fn (fn (fn (fn (fn (fn (fn (fn (fn (fn (fn (fn (fn (fn (fn (fn (fn (fn (fn (fn (fn (fn (fn (fn (fn (fn (fn (fn (fn (fn (fn (fn (fn (fn (fn (fn (fn (fn (fn (fn (fn (fn (fn (fn (fn (fn (fn (fn (fn (fn (fn (fn (fn (fn (fn (fn (fn (fn (fn (fn (fn (fn (fn (fn (fn (fn (fn (fn (fn (fn f0))))))))))))))))))))))))))))))))))))))))))))))))))))))))))))))))))))))))))))))))))))))))))))))))))))))))))))))))))))))))))))))))))))))))))))))))))))))))))))))))), by omega, by omega, rfl, hl, hag, HB⟩
        · skip
          refine ops_val (ex_move rfl) ?_
          refine nO161 ?_
          refine ops_no rfl ?_
          refine ops_no rfl ?_
          refine nO161 ?_
          refine ops_no rfl ?_
          refine ops_no rfl ?_
          refine nO161 ?_
          refine ops_no rfl ?_
          refine ops_no rfl ?_
          refine nO161 ?_
          refine ops_no rfl ?_
          refine ops_val (ex_pick_f rfl rfl) ?_
          refine ops_nil ?_
          refine nR161 ?_
          refine run_cond_false rfl ?_
          refine run_skip ?_
          refine run_nil (blk_normal ?_)
          refine run_region ?_
          refine ops_val (ex_move rfl) ?_
          refine ops_val (ex_add rfl rfl (IntWalk.i64_in _ (by omega))) ?_
          refine ops_val (ex_assign rfl) ?_
          refine ops_nil ?_
          refine nR161 ?_
          refine run_nil (rnd_normal ?_)
          exact ⟨30 - (i + 1), by omega, i + 1, _, s, rfl, (fs (fs (fn (fn (fn (fs (fs (fn (fn (fn (fn (fn (fn (fn (fn (fn (fn (fn (fn (fn (fn (fn (fn (fn (fn (fn (fn (fn (fn (fn (fn (fn (fn (fn (fn (fn (fn (fn (fn (fn (fn (fn (fn (fn (fn (fn (fn (fn (fn (fn (fn (fn (fn (fn (fn (fn (fn (fn (fn (fn (fn (fn (fn (fn (fn (fn (fn (fn (fn (fn (fn (fn (fn (fn (fn (fn (fn (fn (fn (fn (fn (fn (fn (fn (fn (fn (fn (fn (fn (fn (fn (fn (fn (fn (fn (fn (fn (fn (fn (fn (fn (fn (fn (fn (fn (fn (fn (fn (fn (fn (fn (fn (fn (fn (fn (fn (fn (fn (fn (fn (fn (fn (fn (fn (fn (fn (fn (fn (fn (fn (fn (fn (fn (fn (fn (fn (fn (fn (fn (fn (fn (fn (fn (fn (fn (fn (fn (fn (fn (fn (fn (fn (fn (fn (fn (fn (fn (fn (fn (fn (fn f0))))))))))))))))))))))))))))))))))))))))))))))))))))))))))))))))))))))))))))))))))))))))))))))))))))))))))))))))))))))))))))))))))))))))))))))))))))))))))))))))), by omega, by omega, rfl, hl.up_ (by omega), hag, HB.all H3⟩
      · skip
        refine ops_val (ex_pick_t rfl rfl) ?_
        refine ops_nil ?_
        refine nR161 ?_
        refine run_cond_false rfl ?_
        refine run_exit ?_
        refine rnd_exit ?_
        refine blk_exit ?_
        refine run_seq ?_
        refine run_seq ?_
        refine run_region ?_
        refine ops_val (ex_assign rfl) ?_
        refine ops_nil ?_
        refine nR161 ?_
        refine run_block ?_
        refine run_loop (fun n l w => ∃ (q : Nat) (y2 : Int) (s2 : Sx), 10 - q = n ∧ Fits [some (.slice A bs.length c), some (.slice A1 xs.length c1), none, none, none, some (.pointer (some ⟨s.k.gb, 0, none⟩)), none, some (.int .i64 y2), none, none, none, none, none, none, none, none, none, none, none, none, none, none, none, none, none, none, none, none, none, none, none, none, none, none, none, none, none, none, none, none, none, none, none, none, none, none, none, none, none, none, none, none, none, none, none, none, none, none, none, none, none, none, none, none, none, none, none, none, none, none, none, none, none, none, none, none, none, none, none, none, none, none, none, none, none, none, none, none, none, none, none, none, none, none, none, none, none, none, none, none, none, none, none, none, none, none, none, none, none, none, none, none, none, none, none, none, none, none, none, none, none, none, none, none, none, none, none, none, none, none, none, none, none, none, none, none, none, none, none, none, none, none, none, none, none, none, none, none, none, none, none, none, none, none, none, none, none, none, none, none, none] l ∧ y2 = (q : Int) ∧ q ≤ 10 ∧ s2.k.gb = s.k.gb ∧ Live w s2 [] 2048 (30 + 2 * q) ∧ Agr s2.W s2.K ∧ Hp w0 w [] (s2.rows ++ [])) (10) ?_ ?_
        · exact ⟨0, _, s, rfl, (fs (fs (fn (fn (fn (fs (fn (fs (fn (fn (fn (fn (fn (fn (fn (fn (fn (fn (fn (fn (fn (fn (fn (fn (fn (fn (fn (fn (fn (fn (fn (fn (fn (fn (fn (fn (fn (fn (fn (fn (fn (fn (fn (fn (fn (fn (fn (fn (fn (fn (fn (fn (fn (fn (fn (fn (fn (fn (fn (fn (fn (fn (fn (fn (fn (fn (fn (fn (fn (fn (fn (fn (fn (fn (fn (fn (fn (fn (fn (fn (fn (fn (fn (fn (fn (fn (fn (fn (fn (fn (fn (fn (fn (fn (fn (fn (fn (fn (fn (fn (fn (fn (fn (fn (fn (fn (fn (fn (fn (fn (fn (fn (fn (fn (fn (fn (fn (fn (fn (fn (fn (fn (fn (fn (fn (fn (fn (fn (fn (fn (fn (fn (fn (fn (fn (fn (fn (fn (fn (fn (fn (fn (fn (fn (fn (fn (fn (fn (fn (fn (fn (fn (fn (fn (fn (fn (fn (fn (fn (fn (fn f0))))))))))))))))))))))))))))))))))))))))))))))))))))))))))))))))))))))))))))))))))))))))))))))))))))))))))))))))))))))))))))))))))))))))))))))))))))))))))))))))), rfl, Nat.zero_le _, rfl, hl.up_ (by omega), hag, HB.all H3⟩
        · rintro n l w4 ⟨q, y2, s2, rfl, hfit, rfl, hq, hgb2, hl, hag, H4⟩
          obtain ⟨j, rfl⟩ := hfit.open
          refine nR161 ?_
          clear hfit
          have HB := H4
          replace H4 := HB.here
          rw [← hgb2]
          have hn1 := hag.next
          have hf1 := hag.first
          have hnx := hl.next
          refine run_seq ?_
          refine run_seq ?_
          refine run_region ?_
          refine ops_val (ex_move rfl) ?_
          refine ops_val (ex_move rfl) ?_
          refine ops_val (ex_len_slice Try.underlying22 rfl) ?_
          refine ops_test (ex_lss rfl rfl) (fun hp46 => ?_) (fun hp46 => ?_)
          · have hqx : q < xs.length := by omega
            refine ops_val (ex_move rfl) ?_
            refine nO161 ?_
            refine ops_yes rfl ?_
            refine ops_val (ex_move rfl) ?_
            refine ops_yes rfl ?_
            refine ops_test (ex_lss rfl rfl) (fun hp49 => ?_) (fun hp49 => ?_)
            · have hqm : q < 10 := by omega
              obtain ⟨pb, rfl⟩ := hA1.some_ (by omega)
              refine ops_val (ex_pick_t rfl rfl) ?_
              refine ops_nil ?_
              refine nR161 ?_
              refine run_cond_true rfl ?_
              refine run_skip ?_
              refine run_seq ?_
              refine run_block ?_
              refine run_seq ?_
              refine run_still mixed (by kernel_rfl) ?_
              rintro w5 hw5
              have H5 := Hp.drew H4; rw [← hw5] at H5
              refine still_val (ex_move rfl) ?_
              refine still_val (ex_nilCheck rfl) ?_
              refine still_val (ex_fieldAddr fl31_5 rfl) ?_
              refine still_val (ex_load ty3 rfl (H5.cell (i := 6) rfl rfl)) ?_
              refine nS161 ?_
              refine still_val (ex_move rfl) ?_
              refine still_val (ex_move rfl) ?_
              refine still_val (ex_idx Try.underlying22 ty3 rfl rfl rfl hqx (Nat.mul_one _)) ?_
              refine still_val (ex_load ty3 rfl ((hA1.to0 (HB.all H5)).cells pb rfl q _ (i64s_get hqx))) ?_
              refine nS161 ?_
              obtain ⟨u, hu⟩ := u64_nat xs[q]
              refine still_val (ex_conv Try.underlying23 Try.underlying3 rfl hu) ?_
              refine still_val (ex_move rfl) ?_
              refine still_val (ex_nilCheck rfl) ?_
              refine still_val (ex_fieldAddr fl31_3 rfl) ?_
              refine nS161 ?_
              refine still_val (ex_load ty3 rfl (H5.cell (i := 6) rfl rfl)) ?_
              refine still_val (ex_move rfl) ?_
              refine still_val (ex_nilCheck rfl) ?_
              refine still_val (ex_fieldAddr fl31_5 rfl) ?_
              refine nS161 ?_
              refine still_val (ex_load ty3 rfl (H5.cell (i := 6) rfl rfl)) ?_
              refine still_val (ex_sub rfl rfl (IntWalk.i64_in _ (by omega))) ?_
              refine still_val (ex_add rfl rfl ((IntWalk.i64_in _ (by omega)).trans (show ((s2.K.all.length : Int) - (s2.K.first : Int) + 1) = ((s2.W.recs.length + 1 : Nat) : Int) by omega))) ?_
              refine still_val (ex_conv Try.underlying23 Try.underlying3 rfl (IntWalk.u64_in _ (by omega))) ?_
              refine nS161 ?_
              refine still_val (ex_rem rfl rfl (by omega) (tmodN u (s2.W.recs.length + 1))) ?_
              have hgo : u % (s2.W.recs.length + 1) < s2.W.recs.length + 1 := Nat.mod_lt _ (by omega)
              generalize u % (s2.W.recs.length + 1) = gone at hgo
              refine still_val (ex_conv Try.underlying3 Try.underlying23 rfl (IntWalk.i64_in _ (by omega))) ?_
              refine still_val (ex_add rfl rfl ((IntWalk.i64_in _ (by omega)).trans (show ((s2.K.first : Int) + (gone : Int)) = ((s2.W.first + gone : Nat) : Int) by omega))) ?_
              refine still_val (ex_assign rfl) ?_
              refine still_nil ?_
              refine nR161 ?_
              refine run_seq ?_
              refine run_seq ?_
              refine run_mixZ 29 [(true, 0), (true, 1), (true, 2), (true, 3), (true, 4), (false, 5), (true, 6), (true, 7), (true, 8), (true, 9), (true, 10), (true, 11), (true, 12), (true, 13), (false, 14), (true, 15), (true, 16), (true, 17), (true, 18), (true, 19), (true, 20), (true, 21), (true, 22), (true, 23), (true, 24), (true, 25), (true, 26), (false, 27), (true, 28), (false, 29)] H5 [6] mixed (by decide) (by kernel_rfl) ?_
              rintro w6 hw6
              have H6 := Hp.drew H5; rw [← hw6] at H6
              refine mixz_p rfl ?_
              refine mix1_val (fun wz hz => ex_move rfl) ?_
              refine mixz_p rfl ?_
              refine mix1_val (fun wz hz => ex_nilCheck rfl) ?_
              refine mixz_p rfl ?_
              refine mix1_val (fun wz hz => ex_fieldAddr fl31_1 rfl) ?_
              refine mixz_p rfl ?_
              refine mix1_val (fun wz hz => ex_load ty28 rfl (hz.cell (i := 0) rfl rfl)) ?_
              refine nZ161 ?_
              refine mixz_p rfl ?_
              refine mix1_val (fun wz hz => ex_move rfl) ?_
              refine mixz_o rfl ?_
              replace hl := hl.to H6
              have HX : Hp w0 w6 [] (s2.rows ++ []) := HB.all H6
              have hwt := hl.wait
              have htn := hl.turn
              refine ops_call (ex_call gf13 rfl) (cut_all (((s2.W.first + gone : Nat) : Int)) s2.m s2.D s2.W _ HX.less.less.here hl.ok.ok (by omega) (by omega) (by omega)) ?_
              rintro r w7 hcut
              obtain ⟨x3, D3, W3, hr, hres, hwp⟩ := cut_some hcut (gone := gone) rfl (by omega)
              obtain ⟨hx0, hrc3, hfs3, htd3, hwt3, q1, hl, Hc⟩ := hl.sc (by omega) (lt_rest2 HX) (by omega) hres hwp (by omega)
              rw [hr, hx0]
              clear hcut
              have hln3 : W3.recs.length = s2.W.recs.length - gone := by rw [hrc3, List.length_drop]
              have HX : Hp w0 w7 [] ((⟨mv s2.m q1, D3, W3, s2.k, s2.K⟩ : Sx).rows ++ []) := HX.front2 Hc
              have H7 := Hp.front2 (a := wRows s2.m s2.D s2.W) (b := kRows s2.m s2.k s2.K) (R := []) H6 Hc
              refine ops_nil ?_
              refine ⟨fun hne => H7.pick [6] (by decide), ?_⟩
              refine nZ161 ?_
              refine mixz_p rfl ?_
              refine mix1_false (fun wz hz => ex_neq rfl rfl) (by decide) ?_
              refine mixz_p rfl ?_
              refine mix1_val (fun wz hz => ex_move rfl) ?_
              refine mixz_p rfl ?_
              refine mix1_yes rfl ?_
              refine mix1_val (fun wz hz => ex_move rfl) ?_
              refine mixz_p rfl ?_
              refine mix1_yes rfl ?_
              refine mix1_val (fun wz hz => ex_nilCheck rfl) ?_
              refine nZ161 ?_
              refine mixz_p rfl ?_
              refine mix1_yes rfl ?_
              refine mix1_val (fun wz hz => ex_fieldAddr fl31_1 rfl) ?_
              refine mixz_p rfl ?_
              refine mix1_yes rfl ?_
              refine mix1_val (fun wz hz => ex_load ty28 rfl (hz.cell (i := 0) rfl rfl)) ?_
              refine mixz_p rfl ?_
              refine mix1_yes rfl ?_
              refine mix1_val (fun wz hz => ex_move rfl) ?_
              refine mixz_p rfl ?_
              refine mix1_yes rfl ?_
              refine mix1_val (fun wz hz => ex_sub rfl rfl (IntWalk.i64_in _ (by omega))) ?_
              refine nZ161 ?_
              refine mixz_o rfl ?_
              refine ops_yes rfl ?_
              have hwt : D3.wait.length ≤ _ := hl.wait
              have htn : W3.turn ≤ _ := hl.turn
              have hft : W3.first ≤ _ := hl.first
              refine ops_call (ex_call gf13 rfl) (cut_all (((s2.W.first + gone : Nat) : Int) - 1) (mv s2.m q1) D3 W3 _ HX.less.less.here hl.ok.ok (by omega) (by omega) (by omega)) ?_
              rintro r w8 hcut
              obtain ⟨hr, hwp⟩ := cut_none hcut (by omega)
              clear hcut
              obtain ⟨q2, hl, Hc⟩ := hl.same (lt_rest2 HX) hwp
              rw [hr]
              have HX : Hp w0 w8 [] ((⟨mv s2.m q2, D3, W3, s2.k, s2.K⟩ : Sx).rows ++ []) := HX.front2 Hc
              have H8 := Hp.front2 (a := wRows (mv s2.m q1) D3 W3) (b := kRows s2.m s2.k s2.K) (R := []) H7 Hc
              refine ops_nil ?_
              refine ⟨fun hne => H8.pick [6] (by decide), ?_⟩
              refine nZ161 ?_
              refine mixz_p rfl ?_
              refine mix1_yes rfl ?_
              refine mix1_false (fun wz hz => ex_neq rfl rfl) (by decide) ?_
              refine mixz_p rfl ?_
              refine mix1_val (fun wz hz => ex_pick_f rfl rfl) ?_
              refine mixz_p rfl ?_
              refine mix1_val (fun wz hz => ex_move rfl) ?_
              refine mixz_p rfl ?_
              refine mix1_yes rfl ?_
              refine mix1_val (fun wz hz => ex_move rfl) ?_
              refine nZ161 ?_
              refine mixz_p rfl ?_
              refine mix1_yes rfl ?_
              refine mix1_val (fun wz hz => ex_nilCheck rfl) ?_
              refine mixz_p rfl ?_
              refine mix1_yes rfl ?_
              refine mix1_val (fun wz hz => ex_fieldAddr fl31_1 rfl) ?_
              refine mixz_p rfl ?_
              refine mix1_yes rfl ?_
              refine mix1_val (fun wz hz => ex_load ty28 rfl (hz.cell (i := 0) rfl rfl)) ?_
              refine mixz_p rfl ?_
              refine mix1_yes rfl ?_
              refine mix1_val (fun wz hz => ex_move rfl) ?_
              refine nZ161 ?_
              refine mixz_p rfl ?_
              refine mix1_yes rfl ?_
              refine mix1_val (fun wz hz => ex_nilCheck rfl) ?_
              refine mixz_p rfl ?_
              refine mix1_yes rfl ?_
              refine mix1_val (fun wz hz => ex_fieldAddr fl31_3 rfl) ?_
              refine mixz_p rfl ?_
              refine mix1_yes rfl ?_
              refine mix1_val (fun wz hz => ex_load ty3 rfl (hz.cell (i := 0) rfl rfl)) ?_
              refine mixz_p rfl ?_
              refine mix1_yes rfl ?_
              refine mix1_val (fun wz hz => ex_add rfl rfl (IntWalk.i64_in _ (by omega))) ?_
              refine nZ161 ?_
              refine mixz_o rfl ?_
              refine ops_yes rfl ?_
              have hwt : D3.wait.length ≤ _ := hl.wait
              have htn : W3.turn ≤ _ := hl.turn
              have hft : W3.first ≤ _ := hl.first
              refine ops_call (ex_call gf13 rfl) (cut_all ((s2.K.all.length : Int) + 1) (mv s2.m q2) D3 W3 _ HX.less.less.here hl.ok.ok (by omega) (by omega) (by omega)) ?_
              rintro r w9 hcut
              obtain ⟨hr, hwp⟩ := cut_none hcut (by omega)
              clear hcut
              obtain ⟨q3, hl, Hc⟩ := hl.same (lt_rest2 HX) hwp
              rw [hr]
              have HX : Hp w0 w9 [] ((⟨mv s2.m q3, D3, W3, s2.k, s2.K⟩ : Sx).rows ++ []) := HX.front2 Hc
              have H9 := Hp.front2 (a := wRows (mv s2.m q2) D3 W3) (b := kRows s2.m s2.k s2.K) (R := []) H8 Hc
              refine ops_nil ?_
              refine ⟨fun hne => H9.pick [6] (by decide), ?_⟩
              refine nZ161 ?_
              refine mixz_p rfl ?_
              refine mix1_yes rfl ?_
              refine mix1_false (fun wz hz => ex_neq rfl rfl) (by decide) ?_
              refine mixz_o rfl ?_
              refine ops_val (ex_pick_f rfl rfl) ?_
              refine ops_nil ?_
              refine ⟨fun hne => absurd rfl hne, ?_⟩
              refine nZ161 ?_
              refine mixz_nil ?_
              refine nR161 ?_
              refine run_cond_false rfl ?_
              refine run_skip ?_
              refine run_seq ?_
              refine run_region ?_
              refine ops_val (ex_move rfl) ?_
              replace H9 := HX.here
              refine ops_val (ex_move rfl) ?_
              refine ops_val (ex_move rfl) ?_
              refine ops_val (ex_move rfl) ?_
              refine nO161 ?_
              refine ops_val (ex_nilCheck rfl) ?_
              refine ops_val (ex_fieldAddr fl31_3 rfl) ?_
              refine ops_val (ex_load ty3 rfl (H9.cell (i := 6) rfl rfl)) ?_
              refine ops_val (ex_nilCheck rfl) ?_
              refine nO161 ?_
              refine ops_val (ex_fieldAddr fl31_5 rfl) ?_
              refine ops_store1 ty3 H9 6 rfl rfl rfl rfl (by first | decide | simp) rfl ?_
              intro w10 H10
              refine ops_val (ex_nilCheck rfl) ?_
              refine ops_val (ex_fieldAddr fl31_4 rfl) ?_
              refine ops_store1 ty3 H10 6 rfl rfl rfl rfl (by first | decide | simp) rfl ?_
              intro w11 H11
              refine ops_nil ?_
              refine nR161 ?_
              refine run_seq ?_
              refine run_seq ?_
              refine run_region ?_
              refine ops_val (ex_move rfl) ?_
              have HB : Hp w0 w11 [] ((⟨mv s2.m q3, D3, W3, s2.k, { s2.K with safe := s2.K.all.length, first := s2.W.first + gone }⟩ : Sx).rows ++ []) := HX.all H11
              replace hl : Live w11 (⟨mv s2.m q3, D3, W3, s2.k, { s2.K with safe := s2.K.all.length, first := s2.W.first + gone }⟩ : Sx) [] 2048 (30 + 2 * q + 1) := (hl.to H11).re { s2.K with safe := s2.K.all.length, first := s2.W.first + gone } rfl
              have hag3 : Agr W3 { s2.K with safe := s2.K.all.length, first := s2.W.first + gone } := ⟨hfs3.symm, by show s2.K.all.length = W3.first + W3.recs.length; rw [hfs3, hln3]; omega, by show W3.recs = s2.K.all.drop W3.first; rw [hrc3, hag.recs, List.drop_drop, hfs3]⟩
              refine ops_call_val (ex_call gf12 rfl) (agree_any (mv s2.m q3) D3 W3 s2.k { s2.K with safe := s2.K.all.length, first := s2.W.first + gone } _ HB.less.here hl.ok hag3) ?_
              intro w12 Hd
              replace HB := HB.callN Hd
              replace hl := hl.keep0 Hd
              have H12 := HB.here
              refine ops_val (ex_not rfl) ?_
              refine ops_nil ?_
              refine nR161 ?_
              refine run_cond_false rfl ?_
              refine run_skip ?_
              refine run_seq ?_
              refine run_region ?_
              refine ops_val (ex_move rfl) ?_
              refine ops_val (ex_nilCheck rfl) ?_
              refine ops_val (ex_fieldAddr fl31_0 rfl) ?_
              refine ops_val (ex_load ty27 rfl (H12.cell (i := 6) rfl rfl)) ?_
              refine nO161 ?_
              refine ops_call (ex_call gf18 rfl) (liveOpen_any (⟨mv s2.m q3, D3, W3, s2.k, { s2.K with safe := s2.K.all.length, first := s2.W.first + gone }⟩ : Sx) 2048 (30 + 2 * q + 1) [] _ HB.less.less.less.here hl (lt_rest2 HB) htd3 (by omega)) ?_
              rintro r w13 ⟨q4, W4, hr, hl, Hc, hrc4, hfs4, htd4, hgv⟩
              rw [hr]
              have HB : Hp w0 w13 [] ((wRows (mo (mv s2.m q3) q4) D3 W4 ++ kRows (mv s2.m q3) s2.k { s2.K with safe := s2.K.all.length, first := s2.W.first + gone }) ++ []) := (Hp.front3 (a := dRows (mv s2.m q3).gd (mv s2.m q3).gk (mv s2.m q3).gw (mv s2.m q3).cw (mv s2.m q3).sp D3) (b := lRows (mv s2.m q3) W3) (d := kRows (mv s2.m q3) s2.k { s2.K with safe := s2.K.all.length, first := s2.W.first + gone }) (R := []) HB Hc).pick [0, 1, 2, 3, 4, 5, 9, 10] (by decide)
              have H13 := HB.here
              refine ops_val (ex_move rfl) ?_
              refine ops_val (ex_extract rfl rfl) ?_
              refine ops_val (ex_extract rfl rfl) ?_
              refine nO161 ?_
              refine ops_val (ex_assign rfl) ?_
              refine ops_val (ex_assign rfl) ?_
              refine ops_nil ?_
              refine nR161 ?_
              refine run_seq ?_
              refine run_seq ?_
              refine run_mixZ 20 [(true, 0), (true, 1), (true, 2), (true, 3), (true, 4), (true, 5), (true, 6), (true, 7), (true, 8), (true, 9), (true, 10), (true, 11), (true, 12), (true, 13), (true, 15), (true, 16), (true, 17), (true, 18), (false, 14), (true, 19), (false, 20)] H13 [3, 6] mixed (by decide) (by kernel_rfl) ?_
              rintro w14 hw14
              have H14 := Hp.drew H13; rw [← hw14] at H14
              refine mixz_p rfl ?_
              refine mix1_val (fun wz hz => ex_move rfl) ?_
              refine mixz_p rfl ?_
              refine mix1_false (fun wz hz => ex_neq rfl rfl) (by decide) ?_
              refine mixz_p rfl ?_
              refine mix1_val (fun wz hz => ex_move rfl) ?_
              refine mixz_p rfl ?_
              refine mix1_yes rfl ?_
              refine mix1_val (fun wz hz => ex_move rfl) ?_
              refine nZ161 ?_
              refine mixz_p rfl ?_
              refine mix1_yes rfl ?_
              refine mix1_false (fun wz hz => ex_eql_nil_ptr Try.underlying28 rfl) (by simp) ?_
              refine mixz_p rfl ?_
              refine mix1_val (fun wz hz => ex_pick_f rfl rfl) ?_
              refine mixz_p rfl ?_
              refine mix1_val (fun wz hz => ex_move rfl) ?_
              refine mixz_p rfl ?_
              refine mix1_yes rfl ?_
              refine mix1_val (fun wz hz => ex_move rfl) ?_
              refine nZ161 ?_
              refine mixz_p rfl ?_
              refine mix1_yes rfl ?_
              refine mix1_call (fun wz hz => ex_call gf19 rfl) (fun wz hz => first_p q4.gv (W4.first : Int) wz (hz.cell (i := 0) rfl rfl)) ?_
              refine mixz_p rfl ?_
              refine mix1_yes rfl ?_
              refine mix1_val (fun wz hz => ex_move rfl) ?_
              refine mixz_p rfl ?_
              refine mix1_yes rfl ?_
              refine mix1_false (fun wz hz => ex_neq rfl rfl) (by have h0 : W4.first = W3.first := hfs4; omega) ?_
              refine mixz_p rfl ?_
              refine mix1_val (fun wz hz => ex_pick_f rfl rfl) ?_
              refine nZ161 ?_
              refine mixz_p rfl ?_
              refine mix1_val (fun wz hz => ex_move rfl) ?_
              refine mixz_p rfl ?_
              refine mix1_yes rfl ?_
              refine mix1_val (fun wz hz => ex_move rfl) ?_
              refine mixz_p rfl ?_
              refine mix1_yes rfl ?_
              refine mix1_val (fun wz hz => ex_move rfl) ?_
              refine mixz_p rfl ?_
              refine mix1_yes rfl ?_
              refine mix1_val (fun wz hz => ex_nilCheck rfl) ?_
              refine nZ161 ?_
              refine mixz_p rfl ?_
              refine mix1_yes rfl ?_
              refine mix1_val (fun wz hz => ex_fieldAddr fl31_3 rfl) ?_
              refine mixz_p rfl ?_
              refine mix1_yes rfl ?_
              refine mix1_val (fun wz hz => ex_load ty3 rfl (hz.cell (i := 1) rfl rfl)) ?_
              refine mixz_o rfl ?_
              refine ops_yes rfl ?_
              have h0 : W4.first = W3.first := hfs4
              have h1 : W4.recs.length = W3.recs.length := congrArg List.length hrc4
              refine ops_call_val (ex_call gf15 rfl) (next_any q4.gv W4.first W4.recs.length q4.cr (hd q4.gr) _ (H14.cell (i := 3) rfl rfl) (H14.cell (i := 3) rfl rfl) (by omega)) ?_
              intro w15 Hd
              have H15 := H14.callN Hd
              refine ops_nil ?_
              refine ⟨fun hne => H15.pick [3, 6] (by decide), ?_⟩
              refine nZ161 ?_
              refine mixz_p rfl ?_
              refine mix1_yes rfl ?_
              refine mix1_false (fun wz hz => ex_neq rfl rfl) (fun hne => hne (by show (((W4.first + W4.recs.length : Nat)) : Int) = (s2.K.all.length : Int); omega)) ?_
              refine mixz_o rfl ?_
              refine ops_val (ex_pick_f rfl rfl) ?_
              refine ops_nil ?_
              refine ⟨fun hne => absurd rfl hne, ?_⟩
              refine nZ161 ?_
              refine mixz_nil ?_
              refine nR161 ?_
              refine run_cond_false rfl ?_
              refine run_skip ?_
              refine run_seq ?_
              refine run_region ?_
              refine ops_val (ex_move rfl) ?_
              refine ops_val (ex_move rfl) ?_
              refine ops_val (ex_nilCheck rfl) ?_
              refine ops_val (ex_fieldAddr fl31_1 rfl) ?_
              refine nO161 ?_
              refine ops_store1 ty28 H15 6 rfl rfl rfl rfl (by first | decide | simp) rfl ?_
              intro w16 H16
              refine ops_nil ?_
              refine nR161 ?_
              refine run_seq ?_
              refine run_region ?_
              refine ops_val (ex_move rfl) ?_
              replace HB : Hp w0 w16 [] ((⟨mo (mv s2.m q3) q4, D3, W4, s2.k, { s2.K with safe := s2.K.all.length, first := s2.W.first + gone }⟩ : Sx).rows ++ []) := HB.all H16
              replace hl := hl.to H16
              replace H16 := HB.here
              refine ops_val (ex_move rfl) ?_
              refine ops_val (ex_conv Try.underlying5 Try.underlying3 rfl (conv_u8 q)) ?_
              refine ops_buildSlice Try.underlying34 ty5 H16 (cs := u8s [UInt8.ofNat q]) rfl (by decide) rfl ?_
              intro w17 g156 H17 hg156
              replace hl : Live w17 (⟨mo (mv s2.m q3) q4, D3, W4, s2.k, { s2.K with safe := s2.K.all.length, first := s2.W.first + gone }⟩ : Sx) [((some g156, 5, u8s [UInt8.ofNat q]) : Ent)] 2048 (30 + 2 * q + 1) := hl.grow H17 rfl
              refine nO161 ?_
              have h0 : W4.first = W3.first := hfs4
              have h1 : W4.recs = W3.recs := hrc4
              have hag4 : Agr W4 { s2.K with safe := s2.K.all.length, first := s2.W.first + gone } := ⟨h0.symm ▸ hag3.first, by rw [h0, h1]; exact hag3.next, by rw [h0, h1]; exact hag3.recs⟩
              have HB : Hp w0 w17 [] ((⟨mo (mv s2.m q3) q4, D3, W4, s2.k, { s2.K with safe := s2.K.all.length, first := s2.W.first + gone }⟩ : Sx).rows ++ [((some g156, 5, u8s [UInt8.ofNat q]) : Ent)]) := HB.all H17
              refine ops_call (ex_call gf14 rfl) (liveAppend_any (⟨mo (mv s2.m q3) q4, D3, W4, s2.k, { s2.K with safe := s2.K.all.length, first := s2.W.first + gone }⟩ : Sx) 2048 (30 + 2 * q + 1) _ HB.less.here hl.less hag4 (by omega) (hd (some g156)) [UInt8.ofNat q] 1 (HB.rd (i := 8) (o := some g156) (xs := u8s [UInt8.ofNat q]) (sp := []) (by rw [List.append_nil]; rfl) rfl (by decide)) (fun _ p hp hx => by simp only [hd, Option.map_some, Option.some.injEq] at hp; subst hp; exact row_not HB (i := 8) rfl (is := [0, 1, 2, 3, 4, 5, 6, 7]) (by decide) hx) (by show 1 ≤ 2 ^ 46; decide)) ?_
              rintro r w18 ⟨hr1, s5, hp, hag, ho⟩
              rw [hr1]
              obtain ⟨_, _, hgb, hl, Hc⟩ := hp.more hl (lt_rest HB)
              have HB : Hp w0 w18 [] (s5.rows ++ [((some g156, 5, u8s [UInt8.ofNat q]) : Ent)]) := HB.front Hc
              have H18 := HB.here
              rw [← hgb]
              refine ops_val (ex_not rfl) ?_
              refine ops_nil ?_
              refine nR161 ?_
              refine run_cond_false rfl ?_
              refine run_skip ?_
              refine run_nil (blk_normal ?_)
              refine run_region ?_
              refine ops_val (ex_move rfl) ?_
              refine ops_val (ex_add rfl rfl (IntWalk.i64_in _ (by omega))) ?_
              refine ops_val (ex_assign rfl) ?_
              refine ops_nil ?_
              refine nR161 ?_
              refine run_nil (rnd_normal ?_)
              exact ⟨10 - (q + 1), by omega, q + 1, _, s5, rfl, (fs (fs (fn (fn (fn (fs (fn (fs (fn (fn (fn (fn (fn (fn (fn (fn (fn (fn (fn (fn (fn (fn (fn (fn (fn (fn (fn (fn (fn (fn (fn (fn (fn (fn (fn (fn (fn (fn (fn (fn (fn (fn (fn (fn (fn (fn (fn (fn (fn (fn (fn (fn (fn (fn (fn (fn (fn (fn (fn (fn (fn (fn (fn (fn (fn (fn (fn (fn (fn (fn (fn (fn (fn (fn (fn (fn (fn (fn (fn (fn (fn (fn (fn (fn (fn (fn (fn (fn (fn (fn (fn (fn (fn (fn (fn (fn (fn (fn (fn (fn (fn (fn (fn (fn (fn (fn (fn (fn (fn (fn (fn (fn (fn (fn (fn (fn (fn (fn (fn (fn (fn (fn (fn (fn (fn (fn (fn (fn (fn (fn (fn (fn (fn (fn (fn (fn (fn (fn (fn (fn (fn (fn (fn (fn (fn (fn (fn (fn (fn (fn (fn (fn (fn (fn (fn (fn (fn (fn (fn (fn (fn f0))))))))))))))))))))))))))))))))))))))))))))))))))))))))))))))))))))))))))))))))))))))))))))))))))))))))))))))))))))))))))))))))))))))))))))))))))))))))))))))))), by omega, by omega, rfl, Live.lessF (F := []) hl, hag, Hp.less (R := [((some g156, 5, u8s [UInt8.ofNat q]) : Ent)]) (by rw [List.append_nil]; exact HB)⟩
            · skip
              refine ops_val (ex_pick_t rfl rfl) ?_
              refine ops_nil ?_
              refine nR161 ?_
              refine run_cond_false rfl ?_
              refine run_exit ?_
              refine rnd_exit ?_
              refine blk_exit ?_
              refine run_seq ?_
              refine run_region ?_
              refine ops_val (ex_move rfl) ?_
              refine ops_call_val (ex_call gf12 rfl) (agree_any s2.m s2.D s2.W s2.k s2.K _ HB.less.here hl.ok.less hag) ?_
              intro w5 Hd
              have H5 := H4.callN Hd
              refine ops_val (ex_assign rfl) ?_
              refine ops_nil ?_
              refine nR161 ?_
              refine run_ret ?_
              refine fin_ret1 rfl rfl ?_
              exact ⟨rfl, (HB.all H5).noRows⟩
          · skip
            refine ops_val (ex_move rfl) ?_
            refine nO161 ?_
            refine ops_no rfl ?_
            refine ops_no rfl ?_
            refine ops_val (ex_pick_f rfl rfl) ?_
            refine ops_nil ?_
            refine nR161 ?_
            refine run_cond_false rfl ?_
            refine run_exit ?_
            refine rnd_exit ?_
            refine blk_exit ?_
            refine run_seq ?_
            refine run_region ?_
            refine ops_val (ex_move rfl) ?_
            refine ops_call_val (ex_call gf12 rfl) (agree_any s2.m s2.D s2.W s2.k s2.K _ HB.less.here hl.ok.less hag) ?_
            intro w5 Hd
            have H5 := H4.callN Hd
            refine ops_val (ex_assign rfl) ?_
            refine ops_nil ?_
            refine nR161 ?_
            refine run_ret ?_
            refine fin_ret1 rfl rfl ?_
            exact ⟨rfl, (HB.all H5).noRows⟩
    · skip
      refine ops_val (ex_move rfl) ?_
      refine nO161 ?_
      refine ops_no rfl ?_
      refine ops_no rfl ?_
      refine ops_val (ex_pick_f rfl rfl) ?_
      refine ops_nil ?_
      refine nR161 ?_
      refine run_cond_false rfl ?_
      refine run_exit ?_
      refine rnd_exit ?_
      refine blk_exit ?_
      refine run_seq ?_
      refine run_seq ?_
      refine run_region ?_
      refine ops_val (ex_assign rfl) ?_
      refine ops_nil ?_
      refine nR161 ?_
      refine run_block ?_
      refine run_loop (fun n l w => ∃ (q : Nat) (y2 : Int) (s2 : Sx), 10 - q = n ∧ Fits [some (.slice A bs.length c), some (.slice A1 xs.length c1), none, none, none, some (.pointer (some ⟨s.k.gb, 0, none⟩)), none, some (.int .i64 y2), none, none, none, none, none, none, none, none, none, none, none, none, none, none, none, none, none, none, none, none, none, none, none, none, none, none, none, none, none, none, none, none, none, none, none, none, none, none, none, none, none, none, none, none, none, none, none, none, none, none, none, none, none, none, none, none, none, none, none, none, none, none, none, none, none, none, none, none, none, none, none, none, none, none, none, none, none, none, none, none, none, none, none, none, none, none, none, none, none, none, none, none, none, none, none, none, none, none, none, none, none, none, none, none, none, none, none, none, none, none, none, none, none, none, none, none, none, none, none, none, none, none, none, none, none, none, none, none, none, none, none, none, none, none, none, none, none, none, none, none, none, none, none, none, none, none, none, none, none, none, none, none, none] l ∧ y2 = (q : Int) ∧ q ≤ 10 ∧ s2.k.gb = s.k.gb ∧ Live w s2 [] 2048 (30 + 2 * q) ∧ Agr s2.W s2.K ∧ Hp w0 w [] (s2.rows ++ [])) (10) ?_ ?_
      · exact ⟨0, _, s, rfl, (fs (fs (fn (fn (fn (fs (fn (fs (fn (fn (fn (fn (fn (fn (fn (fn (fn (fn (fn (fn (fn (fn (fn (fn (fn (fn (fn (fn (fn (fn (fn (fn (fn (fn (fn (fn (fn (fn (fn (fn (fn (fn (fn (fn (fn (fn (fn (fn (fn (fn (fn (fn (fn (fn (fn (fn (fn (fn (fn (fn (fn (fn (fn (fn (fn (fn (fn (fn (fn (fn (fn (fn (fn (fn (fn (fn (fn (fn (fn (fn (fn (fn (fn (fn (fn (fn (fn (fn (fn (fn (fn (fn (fn (fn (fn (fn (fn (fn (fn (fn (fn (fn (fn (fn (fn (fn (fn (fn (fn (fn (fn (fn (fn (fn (fn (fn (fn (fn (fn (fn (fn (fn (fn (fn (fn (fn (fn (fn (fn (fn (fn (fn (fn (fn (fn (fn (fn (fn (fn (fn (fn (fn (fn (fn (fn (fn (fn (fn (fn (fn (fn (fn (fn (fn (fn (fn (fn (fn (fn (fn (fn f0))))))))))))))))))))))))))))))))))))))))))))))))))))))))))))))))))))))))))))))))))))))))))))))))))))))))))))))))))))))))))))))))))))))))))))))))))))))))))))))))), rfl, Nat.zero_le _, rfl, hl.up_ (by omega), hag, HB.all H3⟩
      · rintro n l w4 ⟨q, y2, s2, rfl, hfit, rfl, hq, hgb2, hl, hag, H4⟩
        obtain ⟨j, rfl⟩ := hfit.open
        refine nR161 ?_
        clear hfit
        have HB := H4
        replace H4 := HB.here
        rw [← hgb2]
        have hn1 := hag.next
        have hf1 := hag.first
        have hnx := hl.next
        refine run_seq ?_
        refine run_seq ?_
        refine run_region ?_
        refine ops_val (ex_move rfl) ?_
        refine ops_val (ex_move rfl) ?_
        refine ops_val (ex_len_slice Try.underlying22 rfl) ?_
        refine ops_test (ex_lss rfl rfl) (fun hp46 => ?_) (fun hp46 => ?_)
        · have hqx : q < xs.length := by omega
          refine ops_val (ex_move rfl) ?_
          refine nO161 ?_
          refine ops_yes rfl ?_
          refine ops_val (ex_move rfl) ?_
          refine ops_yes rfl ?_
          refine ops_test (ex_lss rfl rfl) (fun hp49 => ?_) (fun hp49 => ?_)
          · have hqm : q < 10 := by omega
            obtain ⟨pb, rfl⟩ := hA1.some_ (by omega)
            refine ops_val (ex_pick_t rfl rfl) ?_
            refine ops_nil ?_
            refine nR161 ?_
            refine run_cond_true rfl ?_
            refine run_skip ?_
            refine run_seq ?_
            refine run_block ?_
            refine run_seq ?_
            refine run_still mixed (by kernel_rfl) ?_
            rintro w5 hw5
            have H5 := Hp.drew H4; rw [← hw5] at H5
            refine still_val (ex_move rfl) ?_
            refine still_val (ex_nilCheck rfl) ?_
            refine still_val (ex_fieldAddr fl31_5 rfl) ?_
            refine still_val (ex_load ty3 rfl (H5.cell (i := 6) rfl rfl)) ?_
            refine nS161 ?_
            refine still_val (ex_move rfl) ?_
            refine still_val (ex_move rfl) ?_
            refine still_val (ex_idx Try.underlying22 ty3 rfl rfl rfl hqx (Nat.mul_one _)) ?_
            refine still_val (ex_load ty3 rfl ((hA1.to0 (HB.all H5)).cells pb rfl q _ (i64s_get hqx))) ?_
            refine nS161 ?_
            obtain ⟨u, hu⟩ := u64_nat xs[q]
            refine still_val (ex_conv Try.underlying23 Try.underlying3 rfl hu) ?_
            refine still_val (ex_move rfl) ?_
            refine still_val (ex_nilCheck rfl) ?_
            refine still_val (ex_fieldAddr fl31_3 rfl) ?_
            refine nS161 ?_
            refine still_val (ex_load ty3 rfl (H5.cell (i := 6) rfl rfl)) ?_
            refine still_val (ex_move rfl) ?_
            refine still_val (ex_nilCheck rfl) ?_
            refine still_val (ex_fieldAddr fl31_5 rfl) ?_
            refine nS161 ?_
            refine still_val (ex_load ty3 rfl (H5.cell (i := 6) rfl rfl)) ?_
            refine still_val (ex_sub rfl rfl (IntWalk.i64_in _ (by omega))) ?_
            refine still_val (ex_add rfl rfl ((IntWalk.i64_in _ (by omega)).trans (show ((s2.K.all.length : Int) - (s2.K.first : Int) + 1) = ((s2.W.recs.length + 1 : Nat) : Int) by omega))) ?_
            refine still_val (ex_conv Try.underlying23 Try.underlying3 rfl (IntWalk.u64_in _ (by omega))) ?_
            refine nS161 ?_
            refine still_val (ex_rem rfl rfl (by omega) (tmodN u (s2.W.recs.length + 1))) ?_
            have hgo : u % (s2.W.recs.length + 1) < s2.W.recs.length + 1 := Nat.mod_lt _ (by omega)
            generalize u % (s2.W.recs.length + 1) = gone at hgo
            refine still_val (ex_conv Try.underlying3 Try.underlying23 rfl (IntWalk.i64_in _ (by omega))) ?_
            refine still_val (ex_add rfl rfl ((IntWalk.i64_in _ (by omega)).trans (show ((s2.K.first : Int) + (gone : Int)) = ((s2.W.first + gone : Nat) : Int) by omega))) ?_
            refine still_val (ex_assign rfl) ?_
            refine still_nil ?_
            refine nR161 ?_
            refine run_seq ?_
            refine run_seq ?_
            refine run_mixZ 29 [(true, 0), (true, 1), (true, 2), (true, 3), (true, 4), (false, 5), (true, 6), (true, 7), (true, 8), (true, 9), (true, 10), (true, 11), (true, 12), (true, 13), (false, 14), (true, 15), (true, 16), (true, 17), (true, 18), (true, 19), (true, 20), (true, 21), (true, 22), (true, 23), (true, 24), (true, 25), (true, 26), (false, 27), (true, 28), (false, 29)] H5 [6] mixed (by decide) (by kernel_rfl) ?_
            rintro w6 hw6
            have H6 := Hp.drew H5; rw [← hw6] at H6
            refine mixz_p rfl ?_
            refine mix1_val (fun wz hz => ex_move rfl) ?_
            refine mixz_p rfl ?_
            refine mix1_val (fun wz hz => ex_nilCheck rfl) ?_
            refine mixz_p rfl ?_
            refine mix1_val (fun wz hz => ex_fieldAddr fl31_1 rfl) ?_
            refine mixz_p rfl ?_
            refine mix1_val (fun wz hz => ex_load ty28 rfl (hz.cell (i := 0) rfl rfl)) ?_
            refine nZ161 ?_
            refine mixz_p rfl ?_
            refine mix1_val (fun wz hz => ex_move rfl) ?_
            refine mixz_o rfl ?_
            replace hl := hl.to H6
            have HX : Hp w0 w6 [] (s2.rows ++ []) := HB.all H6
            have hwt := hl.wait
            have htn := hl.turn
            refine ops_call (ex_call gf13 rfl) (cut_all (((s2.W.first + gone : Nat) : Int)) s2.m s2.D s2.W _ HX.less.less.here hl.ok.ok (by omega) (by omega) (by omega)) ?_
            rintro r w7 hcut
            obtain ⟨x3, D3, W3, hr, hres, hwp⟩ := cut_some hcut (gone := gone) rfl (by omega)
            obtain ⟨hx0, hrc3, hfs3, htd3, hwt3, q1, hl, Hc⟩ := hl.sc (by omega) (lt_rest2 HX) (by omega) hres hwp (by omega)
            rw [hr, hx0]
            clear hcut
            have hln3 : W3.recs.length = s2.W.recs.length - gone := by rw [hrc3, List.length_drop]
            have HX : Hp w0 w7 [] ((⟨mv s2.m q1, D3, W3, s2.k, s2.K⟩ : Sx).rows ++ []) := HX.front2 Hc
            have H7 := Hp.front2 (a := wRows s2.m s2.D s2.W) (b := kRows s2.m s2.k s2.K) (R := []) H6 Hc
            refine ops_nil ?_
            refine ⟨fun hne => H7.pick [6] (by decide), ?_⟩
            refine nZ161 ?_
            refine mixz_p rfl ?_
            refine mix1_false (fun wz hz => ex_neq rfl rfl) (by decide) ?_
            refine mixz_p rfl ?_
            refine mix1_val (fun wz hz => ex_move rfl) ?_
            refine mixz_p rfl ?_
            refine mix1_yes rfl ?_
            refine mix1_val (fun wz hz => ex_move rfl) ?_
            refine mixz_p rfl ?_
            refine mix1_yes rfl ?_
            refine mix1_val (fun wz hz => ex_nilCheck rfl) ?_
            refine nZ161 ?_
            refine mixz_p rfl ?_
            refine mix1_yes rfl ?_
            refine mix1_val (fun wz hz => ex_fieldAddr fl31_1 rfl) ?_
            refine mixz_p rfl ?_
            refine mix1_yes rfl ?_
            refine mix1_val (fun wz hz => ex_load ty28 rfl (hz.cell (i := 0) rfl rfl)) ?_
            refine mixz_p rfl ?_
            refine mix1_yes rfl ?_
            refine mix1_val (fun wz hz => ex_move rfl) ?_
            refine mixz_p rfl ?_
            refine mix1_yes rfl ?_
            refine mix1_val (fun wz hz => ex_sub rfl rfl (IntWalk.i64_in _ (by omega))) ?_
            refine nZ161 ?_
            refine mixz_o rfl ?_
            refine ops_yes rfl ?_
            have hwt : D3.wait.length ≤ _ := hl.wait
            have htn : W3.turn ≤ _ := hl.turn
            have hft : W3.first ≤ _ := hl.first
            refine ops_call (ex_call gf13 rfl) (cut_all (((s2.W.first + gone : Nat) : Int) - 1) (mv s2.m q1) D3 W3 _ HX.less.less.here hl.ok.ok (by omega) (by omega) (by omega)) ?_
            rintro r w8 hcut
            obtain ⟨hr, hwp⟩ := cut_none hcut (by omega)
            clear hcut
            obtain ⟨q2, hl, Hc⟩ := hl.same (lt_rest2 HX) hwp
            rw [hr]
            have HX : Hp w0 w8 [] ((⟨mv s2.m q2, D3, W3, s2.k, s2.K⟩ : Sx).rows ++ []) := HX.front2 Hc
            have H8 := Hp.front2 (a := wRows (mv s2.m q1) D3 W3) (b := kRows s2.m s2.k s2.K) (R := []) H7 Hc
            refine ops_nil ?_
            refine ⟨fun hne => H8.pick [6] (by decide), ?_⟩
            refine nZ161 ?_
            refine mixz_p rfl ?_
            refine mix1_yes rfl ?_
            refine mix1_false (fun wz hz => ex_neq rfl rfl) (by decide) ?_
            refine mixz_p rfl ?_
            refine mix1_val (fun wz hz => ex_pick_f rfl rfl) ?_
            refine mixz_p rfl ?_
            refine mix1_val (fun wz hz => ex_move rfl) ?_
            refine mixz_p rfl ?_
            refine mix1_yes rfl ?_
            refine mix1_val (fun wz hz => ex_move rfl) ?_
            refine nZ161 ?_
            refine mixz_p rfl ?_
            refine mix1_yes rfl ?_
            refine mix1_val (fun wz hz => ex_nilCheck rfl) ?_
            refine mixz_p rfl ?_
            refine mix1_yes rfl ?_
            refine mix1_val (fun wz hz => ex_fieldAddr fl31_1 rfl) ?_
            refine mixz_p rfl ?_
            refine mix1_yes rfl ?_
            refine mix1_val (fun wz hz => ex_load ty28 rfl (hz.cell (i := 0) rfl rfl)) ?_
            refine mixz_p rfl ?_
            refine mix1_yes rfl ?_
            refine mix1_val (fun wz hz => ex_move rfl) ?_
            refine nZ161 ?_
            refine mixz_p rfl ?_
            refine mix1_yes rfl ?_
            refine mix1_val (fun wz hz => ex_nilCheck rfl) ?_
            refine mixz_p rfl ?_
            refine mix1_yes rfl ?_
            refine mix1_val (fun wz hz => ex_fieldAddr fl31_3 rfl) ?_
            refine mixz_p rfl ?_
            refine mix1_yes rfl ?_
            refine mix1_val (fun wz hz => ex_load ty3 rfl (hz.cell (i := 0) rfl rfl)) ?_
            refine mixz_p rfl ?_
            refine mix1_yes rfl ?_
            refine mix1_val (fun wz hz => ex_add rfl rfl (IntWalk.i64_in _ (by omega))) ?_
            refine nZ161 ?_
            refine mixz_o rfl ?_
            refine ops_yes rfl ?_
            have hwt : D3.wait.length ≤ _ := hl.wait
            have htn : W3.turn ≤ _ := hl.turn
            have hft : W3.first ≤ _ := hl.first
            refine ops_call (ex_call gf13 rfl) (cut_all ((s2.K.all.length : Int) + 1) (mv s2.m q2) D3 W3 _ HX.less.less.here hl.ok.ok (by omega) (by omega) (by omega)) ?_
            rintro r w9 hcut
            obtain ⟨hr, hwp⟩ := cut_none hcut (by omega)
            clear hcut
            obtain ⟨q3, hl, Hc⟩ := hl.same (lt_rest2 HX) hwp
            rw [hr]
            have HX : Hp w0 w9 [] ((⟨mv s2.m q3, D3, W3, s2.k, s2.K⟩ : Sx).rows ++ []) := HX.front2 Hc
            have H9 := Hp.front2 (a := wRows (mv s2.m q2) D3 W3) (b := kRows s2.m s2.k s2.K) (R := []) H8 Hc
            refine ops_nil ?_
            refine ⟨fun hne => H9.pick [6] (by decide), ?_⟩
            refine nZ161 ?_
            refine mixz_p rfl ?_
            refine mix1_yes rfl ?_
            refine mix1_false (fun wz hz => ex_neq rfl rfl) (by decide) ?_
            refine mixz_o rfl ?_
            refine ops_val (ex_pick_f rfl rfl) ?_
            refine ops_nil ?_
            refine ⟨fun hne => absurd rfl hne, ?_⟩
            refine nZ161 ?_
            refine mixz_nil ?_
            refine nR161 ?_
            refine run_cond_false rfl ?_
            refine run_skip ?_
            refine run_seq ?_
            refine run_region ?_
            refine ops_val (ex_move rfl) ?_
            replace H9 := HX.here
            refine ops_val (ex_move rfl) ?_
            refine ops_val (ex_move rfl) ?_
            refine ops_val (ex_move rfl) ?_
            refine nO161 ?_
            refine ops_val (ex_nilCheck rfl) ?_
            refine ops_val (ex_fieldAddr fl31_3 rfl) ?_
            refine ops_val (ex_load ty3 rfl (H9.cell (i := 6) rfl rfl)) ?_
            refine ops_val (ex_nilCheck rfl) ?_
            refine nO161 ?_
            refine ops_val (ex_fieldAddr fl31_5 rfl) ?_
            refine ops_store1 ty3 H9 6 rfl rfl rfl rfl (by first | decide | simp) rfl ?_
            intro w10 H10
            refine ops_val (ex_nilCheck rfl) ?_
            refine ops_val (ex_fieldAddr fl31_4 rfl) ?_
            refine ops_store1 ty3 H10 6 rfl rfl rfl rfl (by first | decide | simp) rfl ?_
            intro w11 H11
            refine ops_nil ?_
            refine nR161 ?_
            refine run_seq ?_
            refine run_seq ?_
            refine run_region ?_
            refine ops_val (ex_move rfl) ?_
            have HB : Hp w0 w11 [] ((⟨mv s2.m q3, D3, W3, s2.k, { s2.K with safe := s2.K.all.length, first := s2.W.first + gone }⟩ : Sx).rows ++ []) := HX.all H11
            replace hl : Live w11 (⟨mv s2.m q3, D3, W3, s2.k, { s2.K with safe := s2.K.all.length, first := s2.W.first + gone }⟩ : Sx) [] 2048 (30 + 2 * q + 1) := (hl.to H11).re { s2.K with safe := s2.K.all.length, first := s2.W.first + gone } rfl
            have hag3 : Agr W3 { s2.K with safe := s2.K.all.length, first := s2.W.first + gone } := ⟨hfs3.symm, by show s2.K.all.length = W3.first + W3.recs.length; rw [hfs3, hln3]; omega, by show W3.recs = s2.K.all.drop W3.first; rw [hrc3, hag.recs, List.drop_drop, hfs3]⟩
            refine ops_call_val (ex_call gf12 rfl) (agree_any (mv s2.m q3) D3 W3 s2.k { s2.K with safe := s2.K.all.length, first := s2.W.first + gone } _ HB.less.here hl.ok hag3) ?_
            intro w12 Hd
            replace HB := HB.callN Hd
            replace hl := hl.keep0 Hd
            have H12 := HB.here
            refine ops_val (ex_not rfl) ?_
            refine ops_nil ?_
            refine nR161 ?_
            refine run_cond_false rfl ?_
            refine run_skip ?_
            refine run_seq ?_
            refine run_region ?_
            refine ops_val (ex_move rfl) ?_
            refine ops_val (ex_nilCheck rfl) ?_
            refine ops_val (ex_fieldAddr fl31_0 rfl) ?_
            refine ops_val (ex_load ty27 rfl (H12.cell (i := 6) rfl rfl)) ?_
            refine nO161 ?_
            refine ops_call (ex_call gf18 rfl) (liveOpen_any (⟨mv s2.m q3, D3, W3, s2.k, { s2.K with safe := s2.K.all.length, first := s2.W.first + gone }⟩ : Sx) 2048 (30 + 2 * q + 1) [] _ HB.less.less.less.here hl (lt_rest2 HB) htd3 (by omega)) ?_
            rintro r w13 ⟨q4, W4, hr, hl, Hc, hrc4, hfs4, htd4, hgv⟩
            rw [hr]
            have HB : Hp w0 w13 [] ((wRows (mo (mv s2.m q3) q4) D3 W4 ++ kRows (mv s2.m q3) s2.k { s2.K with safe := s2.K.all.length, first := s2.W.first + gone }) ++ []) := (Hp.front3 (a := dRows (mv s2.m q3).gd (mv s2.m q3).gk (mv s2.m q3).gw (mv s2.m q3).cw (mv s2.m q3).sp D3) (b := lRows (mv s2.m q3) W3) (d := kRows (mv s2.m q3) s2.k { s2.K with safe := s2.K.all.length, first := s2.W.first + gone }) (R := []) HB Hc).pick [0, 1, 2, 3, 4, 5, 9, 10] (by decide)
            have H13 := HB.here
            refine ops_val (ex_move rfl) ?_
            refine ops_val (ex_extract rfl rfl) ?_
            refine ops_val (ex_extract rfl rfl) ?_
            refine nO161 ?_
            refine ops_val (ex_assign rfl) ?_
            refine ops_val (ex_assign rfl) ?_
            refine ops_nil ?_
            refine nR161 ?_
            refine run_seq ?_
            refine run_seq ?_
            refine run_mixZ 20 [(true, 0), (true, 1), (true, 2), (true, 3), (true, 4), (true, 5), (true, 6), (true, 7), (true, 8), (true, 9), (true, 10), (true, 11), (true, 12), (true, 13), (true, 15), (true, 16), (true, 17), (true, 18), (false, 14), (true, 19), (false, 20)] H13 [3, 6] mixed (by decide) (by kernel_rfl) ?_
            rintro w14 hw14
            have H14 := Hp.drew H13; rw [← hw14] at H14
            refine mixz_p rfl ?_
            refine mix1_val (fun wz hz => ex_move rfl) ?_
            refine mixz_p rfl ?_
            refine mix1_false (fun wz hz => ex_neq rfl rfl) (by decide) ?_
            refine mixz_p rfl ?_
            refine mix1_val (fun wz hz => ex_move rfl) ?_
            refine mixz_p rfl ?_
            refine mix1_yes rfl ?_
            refine mix1_val (fun wz hz => ex_move rfl) ?_
            refine nZ161 ?_
            refine mixz_p rfl ?_
            refine mix1_yes rfl ?_
            refine mix1_false (fun wz hz => ex_eql_nil_ptr Try.underlying28 rfl) (by simp) ?_
            refine mixz_p rfl ?_
            refine mix1_val (fun wz hz => ex_pick_f rfl rfl) ?_
            refine mixz_p rfl ?_
            refine mix1_val (fun wz hz => ex_move rfl) ?_
            refine mixz_p rfl ?_
            refine mix1_yes rfl ?_
            refine mix1_val (fun wz hz => ex_move rfl) ?_
            refine nZ161 ?_
            refine mixz_p rfl ?_
            refine mix1_yes rfl ?_
            refine mix1_call (fun wz hz => ex_call gf19 rfl) (fun wz hz => first_p q4.gv (W4.first : Int) wz (hz.cell (i := 0) rfl rfl)) ?_
            refine mixz_p rfl ?_
            refine mix1_yes rfl ?_
            refine mix1_val (fun wz hz => ex_move rfl) ?_
            refine mixz_p rfl ?_
            refine mix1_yes rfl ?_
            refine mix1_false (fun wz hz => ex_neq rfl rfl) (by have h0 : W4.first = W3.first := hfs4; omega) ?_
            refine mixz_p rfl ?_
            refine mix1_val (fun wz hz => ex_pick_f rfl rfl) ?_
            refine nZ161 ?_
            refine mixz_p rfl ?_
            refine mix1_val (fun wz hz => ex_move rfl) ?_
            refine mixz_p rfl ?_
            refine mix1_yes rfl ?_
            refine mix1_val (fun wz hz => ex_move rfl) ?_
            refine mixz_p rfl ?_
            refine mix1_yes rfl ?_
            refine mix1_val (fun wz hz => ex_move rfl) ?_
            refine mixz_p rfl ?_
            refine mix1_yes rfl ?_
            refine mix1_val (fun wz hz => ex_nilCheck rfl) ?_
            refine nZ161 ?_
            refine mixz_p rfl ?_
            refine mix1_yes rfl ?_
            refine mix1_val (fun wz hz => ex_fieldAddr fl31_3 rfl) ?_
            refine mixz_p rfl ?_
            refine mix1_yes rfl ?_
            refine mix1_val (fun wz hz => ex_load ty3 rfl (hz.cell (i := 1) rfl rfl)) ?_
            refine mixz_o rfl ?_
            refine ops_yes rfl ?_
            have h0 : W4.first = W3.first := hfs4
            have h1 : W4.recs.length = W3.recs.length := congrArg List.length hrc4
            refine ops_call_val (ex_call gf15 rfl) (next_any q4.gv W4.first W4.recs.length q4.cr (hd q4.gr) _ (H14.cell (i := 3) rfl rfl) (H14.cell (i := 3) rfl rfl) (by omega)) ?_
            intro w15 Hd
            have H15 := H14.callN Hd
            refine ops_nil ?_
            refine ⟨fun hne => H15.pick [3, 6] (by decide), ?_⟩
            refine nZ161 ?_
            refine mixz_p rfl ?_
            refine mix1_yes rfl ?_
            refine mix1_false (fun wz hz => ex_neq rfl rfl) (fun hne => hne (by show (((W4.first + W4.recs.length : Nat)) : Int) = (s2.K.all.length : Int); omega)) ?_
            refine mixz_o rfl ?_
            refine ops_val (ex_pick_f rfl rfl) ?_
            refine ops_nil ?_
            refine ⟨fun hne => absurd rfl hne, ?_⟩
            refine nZ161 ?_
            refine mixz_nil ?_
            refine nR161 ?_
            refine run_cond_false rfl ?_
            refine run_skip ?_
            refine run_seq ?_
            refine run_region ?_
            refine ops_val (ex_move rfl) ?_
            refine ops_val (ex_move rfl) ?_
            refine ops_val (ex_nilCheck rfl) ?_
            refine ops_val (ex_fieldAddr fl31_1 rfl) ?_
            refine nO161 ?_
            refine ops_store1 ty28 H15 6 rfl rfl rfl rfl (by first | decide | simp) rfl ?_
            intro w16 H16
            refine ops_nil ?_
            refine nR161 ?_
            refine run_seq ?_
            refine run_region ?_
            refine ops_val (ex_move rfl) ?_
            replace HB : Hp w0 w16 [] ((⟨mo (mv s2.m q3) q4, D3, W4, s2.k, { s2.K with safe := s2.K.all.length, first := s2.W.first + gone }⟩ : Sx).rows ++ []) := HB.all H16
            replace hl := hl.to H16
            replace H16 := HB.here
            refine ops_val (ex_move rfl) ?_
            refine ops_val (ex_conv Try.underlying5 Try.underlying3 rfl (conv_u8 q)) ?_
            refine ops_buildSlice Try.underlying34 ty5 H16 (cs := u8s [UInt8.ofNat q]) rfl (by decide) rfl ?_
            intro w17 g156 H17 hg156
            replace hl : Live w17 (⟨mo (mv s2.m q3) q4, D3, W4, s2.k, { s2.K with safe := s2.K.all.length, first := s2.W.first + gone }⟩ : Sx) [((some g156, 5, u8s [UInt8.ofNat q]) : Ent)] 2048 (30 + 2 * q + 1) := hl.grow H17 rfl
            refine nO161 ?_
            have h0 : W4.first = W3.first := hfs4
            have h1 : W4.recs = W3.recs := hrc4
            have hag4 : Agr W4 { s2.K with safe := s2.K.all.length, first := s2.W.first + gone } := ⟨h0.symm ▸ hag3.first, by rw [h0, h1]; exact hag3.next, by rw [h0, h1]; exact hag3.recs⟩
            have HB : Hp w0 w17 [] ((⟨mo (mv s2.m q3) q4, D3, W4, s2.k, { s2.K with safe := s2.K.all.length, first := s2.W.first + gone }⟩ : Sx).rows ++ [((some g156, 5, u8s [UInt8.ofNat q]) : Ent)]) := HB.all H17
            refine ops_call (ex_call gf14 rfl) (liveAppend_any (⟨mo (mv s2.m q3) q4, D3, W4, s2.k, { s2.K with safe := s2.K.all.length, first := s2.W.first + gone }⟩ : Sx) 2048 (30 + 2 * q + 1) _ HB.less.here hl.less hag4 (by omega) (hd (some g156)) [UInt8.ofNat q] 1 (HB.rd (i := 8) (o := some g156) (xs := u8s [UInt8.ofNat q]) (sp := []) (by rw [List.append_nil]; rfl) rfl (by decide)) (fun _ p hp hx => by simp only [hd, Option.map_some, Option.some.injEq] at hp; subst hp; exact row_not HB (i := 8) rfl (is := [0, 1, 2, 3, 4, 5, 6, 7]) (by decide) hx) (by show 1 ≤ 2 ^ 46; decide)) ?_
            rintro r w18 ⟨hr1, s5, hp, hag, ho⟩
            rw [hr1]
            obtain ⟨_, _, hgb, hl, Hc⟩ := hp.more hl (lt_rest HB)
            have HB : Hp w0 w18 [] (s5.rows ++ [((some g156, 5, u8s [UInt8.ofNat q]) : Ent)]) := HB.front Hc
            have H18 := HB.here
            rw [← hgb]
            refine ops_val (ex_not rfl) ?_
            refine ops_nil ?_
            refine nR161 ?_
            refine run_cond_false rfl ?_
            refine run_skip ?_
            refine run_nil (blk_normal ?_)
            refine run_region ?_
            refine ops_val (ex_move rfl) ?_
            refine ops_val (ex_add rfl rfl (IntWalk.i64_in _ (by omega))) ?_
            refine ops_val (ex_assign rfl) ?_
            refine ops_nil ?_
            refine nR161 ?_
            refine run_nil (rnd_normal ?_)
            exact ⟨10 - (q + 1), by omega, q + 1, _, s5, rfl, (fs (fs (fn (fn (fn (fs (fn (fs (fn (fn (fn (fn (fn (fn (fn (fn (fn (fn (fn (fn (fn (fn (fn (fn (fn (fn (fn (fn (fn (fn (fn (fn (fn (fn (fn (fn (fn (fn (fn (fn (fn (fn (fn (fn (fn (fn (fn (fn (fn (fn (fn (fn (fn (fn (fn (fn (fn (fn (fn (fn (fn (fn (fn (fn (fn (fn (fn (fn (fn (fn (fn (fn (fn (fn (fn (fn (fn (fn (fn (fn (fn (fn (fn (fn (fn (fn (fn (fn (fn (fn (fn (fn (fn (fn (fn (fn (fn (fn (fn (fn (fn (fn (fn (fn (fn (fn (fn (fn (fn (fn (fn (fn (fn (fn (fn (fn (fn (fn (fn (fn (fn (fn (fn (fn (fn (fn (fn (fn (fn (fn (fn (fn (fn (fn (fn (fn (fn (fn (fn (fn (fn (fn (fn (fn (fn (fn (fn (fn (fn (fn (fn (fn (fn (fn (fn (fn (fn (fn (fn (fn (fn f0))))))))))))))))))))))))))))))))))))))))))))))))))))))))))))))))))))))))))))))))))))))))))))))))))))))))))))))))))))))))))))))))))))))))))))))))))))))))))))))))), by omega, by omega, rfl, Live.lessF (F := []) hl, hag, Hp.less (R := [((some g156, 5, u8s [UInt8.ofNat q]) : Ent)]) (by rw [List.append_nil]; exact HB)⟩
          · skip
            refine ops_val (ex_pick_t rfl rfl) ?_
            refine ops_nil ?_
            refine nR161 ?_
            refine run_cond_false rfl ?_
            refine run_exit ?_
            refine rnd_exit ?_
            refine blk_exit ?_
            refine run_seq ?_
            refine run_region ?_
            refine ops_val (ex_move rfl) ?_
            refine ops_call_val (ex_call gf12 rfl) (agree_any s2.m s2.D s2.W s2.k s2.K _ HB.less.here hl.ok.less hag) ?_
            intro w5 Hd
            have H5 := H4.callN Hd
            refine ops_val (ex_assign rfl) ?_
            refine ops_nil ?_
            refine nR161 ?_
            refine run_ret ?_
            refine fin_ret1 rfl rfl ?_
            exact ⟨rfl, (HB.all H5).noRows⟩
        · skip
          refine ops_val (ex_move rfl) ?_
          refine nO161 ?_
          refine ops_no rfl ?_
          refine ops_no rfl ?_
          refine ops_val (ex_pick_f rfl rfl) ?_
          refine ops_nil ?_
          refine nR161 ?_
          refine run_cond_false rfl ?_
          refine run_exit ?_
          refine rnd_exit ?_
          refine blk_exit ?_
          refine run_seq ?_
          refine run_region ?_
          refine ops_val (ex_move rfl) ?_
          refine ops_call_val (ex_call gf12 rfl) (agree_any s2.m s2.D s2.W s2.k s2.K _ HB.less.here hl.ok.less hag) ?_
          intro w5 Hd
          have H5 := H4.callN Hd
          refine ops_val (ex_assign rfl) ?_
          refine ops_nil ?_
          refine nR161 ?_
          refine run_ret ?_
          refine fin_ret1 rfl rfl ?_
          exact ⟨rfl, (HB.all H5).noRows⟩
end Go.Proofs.Ytgkciibfpenjpaa
