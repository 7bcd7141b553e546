/- Walks of layer 2, printed by wip/gen/codec.py. -/
import Derived.Test.YtlglenbmpikhmaaCodecG
import Derived.Test.YtlglenbmpikhmaaCodecStep
namespace Go.Proofs.Ytlglenbmpikhmaa
open Go Go.RowKit
set_option linter.unusedVariables false
attribute [local irreducible] Still Ops Does Cd
theorem textStep_len (b : List UInt8) (m : Int) (i e : Nat) : (textStep b m i e).1.length ≤ b.length := by
  unfold textStep
  split
  · unfold textOf
    split
    · simp
    · split
      · simp
      · simp; omega
  · simp
set_option maxRecDepth 100000 in
set_option maxHeartbeats 4000000 in
theorem step_any (gr gw : Nat) (A A' : Option Addr) (c c' : Nat) (b b' : List UInt8) (i e i' e' : Nat) (k m : Int) (w0 : World) (hR : Rdr w0 gr A c b i e) (hW : Rdw w0 gw A' c' b' i' e') (hn : gr ≠ gw) (h1 : ∀ a, A = some a → a.block ≠ gw) (h2 : ∀ a, A' = some a → a.block ≠ gr) (hlo : -9223372036854775808 ≤ m) (hhi : m ≤ 9223372036854775807) :
    Does Try.prog 22 #[.pointer (some ⟨gr, 0, none⟩), .pointer (some ⟨gw, 0, none⟩), .agg [.int .i64 k, .int .i64 m].toArray] w0 (fun r w' => r = .bool (decide (askAns k m b i e = askAns k m b' i' e')) ∧ Hp w0 w' [gr, gw] [(some gr, 52, rc A b c (askAt k m b i e).1 (askAt k m b i e).2), (some gw, 50, rc A' b' c' (askAt k m b' i' e').1 (askAt k m b' i' e').2)]) := by
  refine does_of Try.func22 Try.ntmps22 rfl ?_
  change Run _ _ _ _ [.pointer (some ⟨gr, 0, none⟩), .pointer (some ⟨gw, 0, none⟩), .agg [.int .i64 k, .int .i64 m].toArray, undef, undef, undef, undef, undef, undef, undef, undef, undef, undef, undef, undef, undef, undef, undef, undef, undef, undef, undef, undef, undef, undef, undef, undef, undef, undef, undef, undef, undef, undef, undef, undef, undef, undef, undef, undef, undef, undef, undef, undef, undef, undef, undef, undef, undef, undef, undef, undef, undef, undef, undef, undef, undef, undef, undef, undef, undef, undef, undef, undef, undef, undef, undef, undef, undef, undef, undef, undef] _
  have H := Hp.old2 hR.row hW.row hn
  have hln := hR.len
  have hlw := hW.len
  refine run_seq ?_
  refine run_region ?_
  refine ops_box rfl rfl H ?_
  intro w1 gb H1 hgb
  have hR0 : Rdr w1 gr A c b i e := ⟨H1.at (i := 0) rfl, hR.rd.to H1 (by intro a ha; simp; exact ⟨hR.apart a ha, h1 a ha⟩), hR.apart, hR.le, hR.cap, hR.len⟩
  have hW0 : Rdw w1 gw A' c' b' i' e' := ⟨H1.at (i := 1) rfl, hW.rd.to H1 (by intro a ha; simp; exact ⟨h2 a ha, hW.apart a ha⟩), hW.apart, hW.le, hW.cap, hW.len⟩
  refine ops_val (ex_assign rfl) ?_
  refine ops_nil ?_
  change Run _ _ _ _ [_, _, _, _, _, _, _, _, _, _, _, _, _, _, _, _, _, _, _, _, _, _, _, _, _, _, _, _, _, _, _, _, _, _, _, _, _, _, _, _, _, _, _, _, _, _, _, _, _, _, _, _, _, _, _, _, _, _, _, _, _, _, _, _, _, _, _, _, _, _, _] _
  refine run_seq ?_
  refine run_seq ?_
  refine run_region ?_
  refine ops_val (ex_fieldAddr fl44_0 rfl) ?_
  refine ops_val (ex_load ty3 rfl (H1.cell (i := 2) rfl rfl)) ?_
  refine ops_nil ?_
  change Run _ _ _ _ [_, _, _, _, _, _, _, _, _, _, _, _, _, _, _, _, _, _, _, _, _, _, _, _, _, _, _, _, _, _, _, _, _, _, _, _, _, _, _, _, _, _, _, _, _, _, _, _, _, _, _, _, _, _, _, _, _, _, _, _, _, _, _, _, _, _, _, _, _, _, _] _
  refine run_block ?_
  refine run_seq ?_
  refine run_region ?_
  refine ops_test (ex_eql rfl rfl) (fun hp13 => ?_) (fun hp13 => ?_)
  · skip
    refine ops_val (ex_assign rfl) ?_
    refine ops_nil ?_
    change Run _ _ _ _ [_, _, _, _, _, _, _, _, _, _, _, _, _, _, _, _, _, _, _, _, _, _, _, _, _, _, _, _, _, _, _, _, _, _, _, _, _, _, _, _, _, _, _, _, _, _, _, _, _, _, _, _, _, _, _, _, _, _, _, _, _, _, _, _, _, _, _, _, _, _, _] _
    refine run_cond_true rfl ?_
    refine run_seq ?_
    refine run_region ?_
    refine ops_val (ex_move rfl) ?_
    refine ops_call_val (ex_call gf11 rfl) (int_rd gr _ _ b i e _ hR0) ?_
    intro w2 Hd
    have H2 := (H1.call1 (i := 0) rfl Hd).pick [3, 1, 2] (by decide)
    have hW1 := hW0.past Hd hn.symm h2
    refine ops_val (ex_move rfl) ?_
    refine ops_call_val (ex_call gf36 rfl) (intW_rd gw _ _ b' i' e' _ hW1) ?_
    intro w3 Hd
    have H3 := (H2.call1 (i := 1) rfl Hd).pick [0, 3, 2] (by decide)
    change Ops _ _ _ _ _ _ [_, _, _, _, _, _, _, _, _, _, _, _, _, _, _, _, _, _, _, _, _, _, _, _, _, _, _, _, _, _, _, _, _, _, _, _, _, _, _, _, _, _, _, _, _, _, _, _, _, _, _, _, _, _, _, _, _, _, _, _, _, _, _, _, _, _, _, _, _, _, _] _
    refine ops_val (ex_eql rfl rfl) ?_
    refine ops_val (ex_assign rfl) ?_
    refine ops_nil ?_
    change Run _ _ _ _ [_, _, _, _, _, _, _, _, _, _, _, _, _, _, _, _, _, _, _, _, _, _, _, _, _, _, _, _, _, _, _, _, _, _, _, _, _, _, _, _, _, _, _, _, _, _, _, _, _, _, _, _, _, _, _, _, _, _, _, _, _, _, _, _, _, _, _, _, _, _, _] _
    refine run_ret ?_
    refine blk_ret ?_
    refine fin_ret1 rfl rfl ?_
    rw [askAns1 hp13, askAns1 hp13, askAt1 hp13, askAt1 hp13]
    exact ⟨congrArg Value.bool one_eq, H3.pick [0, 1] (by decide)⟩
  · skip
    refine ops_val (ex_assign rfl) ?_
    refine ops_nil ?_
    change Run _ _ _ _ [_, _, _, _, _, _, _, _, _, _, _, _, _, _, _, _, _, _, _, _, _, _, _, _, _, _, _, _, _, _, _, _, _, _, _, _, _, _, _, _, _, _, _, _, _, _, _, _, _, _, _, _, _, _, _, _, _, _, _, _, _, _, _, _, _, _, _, _, _, _, _] _
    refine run_cond_false rfl ?_
    refine run_seq ?_
    refine run_region ?_
    refine ops_test (ex_eql rfl rfl) (fun hp20 => ?_) (fun hp20 => ?_)
    · skip
      refine ops_val (ex_assign rfl) ?_
      refine ops_nil ?_
      change Run _ _ _ _ [_, _, _, _, _, _, _, _, _, _, _, _, _, _, _, _, _, _, _, _, _, _, _, _, _, _, _, _, _, _, _, _, _, _, _, _, _, _, _, _, _, _, _, _, _, _, _, _, _, _, _, _, _, _, _, _, _, _, _, _, _, _, _, _, _, _, _, _, _, _, _] _
      refine run_cond_true rfl ?_
      refine run_seq ?_
      refine run_region ?_
      refine ops_val (ex_move rfl) ?_
      refine ops_call_val (ex_call gf26 rfl) (byte_rd gr _ _ b i e _ hR0) ?_
      intro w2 Hd
      have H2 := (H1.call1 (i := 0) rfl Hd).pick [3, 1, 2] (by decide)
      have hW1 := hW0.past Hd hn.symm h2
      refine ops_val (ex_move rfl) ?_
      refine ops_call_val (ex_call gf37 rfl) (byteW_rd gw _ _ b' i' e' _ hW1) ?_
      intro w3 Hd
      have H3 := (H2.call1 (i := 1) rfl Hd).pick [0, 3, 2] (by decide)
      change Ops _ _ _ _ _ _ [_, _, _, _, _, _, _, _, _, _, _, _, _, _, _, _, _, _, _, _, _, _, _, _, _, _, _, _, _, _, _, _, _, _, _, _, _, _, _, _, _, _, _, _, _, _, _, _, _, _, _, _, _, _, _, _, _, _, _, _, _, _, _, _, _, _, _, _, _, _, _] _
      refine ops_val (ex_eql rfl rfl) ?_
      refine ops_val (ex_assign rfl) ?_
      refine ops_nil ?_
      change Run _ _ _ _ [_, _, _, _, _, _, _, _, _, _, _, _, _, _, _, _, _, _, _, _, _, _, _, _, _, _, _, _, _, _, _, _, _, _, _, _, _, _, _, _, _, _, _, _, _, _, _, _, _, _, _, _, _, _, _, _, _, _, _, _, _, _, _, _, _, _, _, _, _, _, _] _
      refine run_ret ?_
      refine blk_ret ?_
      refine fin_ret1 rfl rfl ?_
      rw [askAns2 hp20, askAns2 hp20, askAt2 hp20, askAt2 hp20]
      exact ⟨congrArg Value.bool one_eq, H3.pick [0, 1] (by decide)⟩
    · skip
      refine ops_val (ex_assign rfl) ?_
      refine ops_nil ?_
      change Run _ _ _ _ [_, _, _, _, _, _, _, _, _, _, _, _, _, _, _, _, _, _, _, _, _, _, _, _, _, _, _, _, _, _, _, _, _, _, _, _, _, _, _, _, _, _, _, _, _, _, _, _, _, _, _, _, _, _, _, _, _, _, _, _, _, _, _, _, _, _, _, _, _, _, _] _
      refine run_cond_false rfl ?_
      refine run_seq ?_
      refine run_region ?_
      refine ops_test (ex_eql rfl rfl) (fun hp27 => ?_) (fun hp27 => ?_)
      · skip
        refine ops_val (ex_assign rfl) ?_
        refine ops_nil ?_
        change Run _ _ _ _ [_, _, _, _, _, _, _, _, _, _, _, _, _, _, _, _, _, _, _, _, _, _, _, _, _, _, _, _, _, _, _, _, _, _, _, _, _, _, _, _, _, _, _, _, _, _, _, _, _, _, _, _, _, _, _, _, _, _, _, _, _, _, _, _, _, _, _, _, _, _, _] _
        refine run_cond_true rfl ?_
        refine run_seq ?_
        refine run_region ?_
        refine ops_val (ex_move rfl) ?_
        refine ops_call_val (ex_call gf19 rfl) (flag_rd gr _ _ b i e _ hR0) ?_
        intro w2 Hd
        have H2 := (H1.call1 (i := 0) rfl Hd).pick [3, 1, 2] (by decide)
        have hW1 := hW0.past Hd hn.symm h2
        refine ops_val (ex_move rfl) ?_
        refine ops_call_val (ex_call gf38 rfl) (flagW_rd gw _ _ b' i' e' _ hW1) ?_
        intro w3 Hd
        have H3 := (H2.call1 (i := 1) rfl Hd).pick [0, 3, 2] (by decide)
        change Ops _ _ _ _ _ _ [_, _, _, _, _, _, _, _, _, _, _, _, _, _, _, _, _, _, _, _, _, _, _, _, _, _, _, _, _, _, _, _, _, _, _, _, _, _, _, _, _, _, _, _, _, _, _, _, _, _, _, _, _, _, _, _, _, _, _, _, _, _, _, _, _, _, _, _, _, _, _] _
        refine ops_val (ex_eql_bool Try.underlying4 rfl rfl) ?_
        refine ops_val (ex_assign rfl) ?_
        refine ops_nil ?_
        change Run _ _ _ _ [_, _, _, _, _, _, _, _, _, _, _, _, _, _, _, _, _, _, _, _, _, _, _, _, _, _, _, _, _, _, _, _, _, _, _, _, _, _, _, _, _, _, _, _, _, _, _, _, _, _, _, _, _, _, _, _, _, _, _, _, _, _, _, _, _, _, _, _, _, _, _] _
        refine run_ret ?_
        refine blk_ret ?_
        refine fin_ret1 rfl rfl ?_
        rw [askAns3 hp27, askAns3 hp27, askAt3 hp27, askAt3 hp27]
        exact ⟨congrArg Value.bool bool_eq, H3.pick [0, 1] (by decide)⟩
      · skip
        refine ops_val (ex_assign rfl) ?_
        refine ops_nil ?_
        change Run _ _ _ _ [_, _, _, _, _, _, _, _, _, _, _, _, _, _, _, _, _, _, _, _, _, _, _, _, _, _, _, _, _, _, _, _, _, _, _, _, _, _, _, _, _, _, _, _, _, _, _, _, _, _, _, _, _, _, _, _, _, _, _, _, _, _, _, _, _, _, _, _, _, _, _] _
        refine run_cond_false rfl ?_
        refine run_seq ?_
        refine run_region ?_
        refine ops_test (ex_eql rfl rfl) (fun hp34 => ?_) (fun hp34 => ?_)
        · skip
          refine ops_val (ex_assign rfl) ?_
          refine ops_nil ?_
          change Run _ _ _ _ [_, _, _, _, _, _, _, _, _, _, _, _, _, _, _, _, _, _, _, _, _, _, _, _, _, _, _, _, _, _, _, _, _, _, _, _, _, _, _, _, _, _, _, _, _, _, _, _, _, _, _, _, _, _, _, _, _, _, _, _, _, _, _, _, _, _, _, _, _, _, _] _
          refine run_cond_true rfl ?_
          refine run_seq ?_
          refine run_region ?_
          refine ops_val (ex_move rfl) ?_
          refine ops_val (ex_fieldAddr fl44_1 rfl) ?_
          refine ops_val (ex_load ty3 rfl (H1.cell (i := 2) rfl rfl)) ?_
          refine ops_call_slice (ex_call gf12 rfl) (text_rd gr _ _ b i e _ hR0 m hlo hhi) ?_
          intro w2 gt ct st ⟨ht1, ht2, ht3, Hd⟩
          have H2 := (H1.call1 (i := 0) rfl Hd).pick [3, 1, 2, 4] (by decide)
          have hW1 := hW0.past Hd hn.symm h2
          change Ops _ _ _ _ _ _ [_, _, _, _, _, _, _, _, _, _, _, _, _, _, _, _, _, _, _, _, _, _, _, _, _, _, _, _, _, _, _, _, _, _, _, _, _, _, _, _, _, _, _, _, _, _, _, _, _, _, _, _, _, _, _, _, _, _, _, _, _, _, _, _, _, _, _, _, _, _, _] _
          refine ops_val (ex_assign rfl) ?_
          refine ops_nil ?_
          change Run _ _ _ _ [_, _, _, _, _, _, _, _, _, _, _, _, _, _, _, _, _, _, _, _, _, _, _, _, _, _, _, _, _, _, _, _, _, _, _, _, _, _, _, _, _, _, _, _, _, _, _, _, _, _, _, _, _, _, _, _, _, _, _, _, _, _, _, _, _, _, _, _, _, _, _] _
          refine run_seq ?_
          refine run_region ?_
          refine ops_val (ex_move rfl) ?_
          refine ops_val (ex_move rfl) ?_
          refine ops_val (ex_fieldAddr fl44_1 rfl) ?_
          refine ops_val (ex_load ty3 rfl (H2.cell (i := 2) rfl rfl)) ?_
          change Ops _ _ _ _ _ _ [_, _, _, _, _, _, _, _, _, _, _, _, _, _, _, _, _, _, _, _, _, _, _, _, _, _, _, _, _, _, _, _, _, _, _, _, _, _, _, _, _, _, _, _, _, _, _, _, _, _, _, _, _, _, _, _, _, _, _, _, _, _, _, _, _, _, _, _, _, _, _] _
          refine ops_call_slice (ex_call gf39 rfl) (textW_rd gw _ _ b' i' e' _ hW1 m hlo hhi) ?_
          intro w3 gu cu su ⟨hu1, hu2, hu3, Hd⟩
          have H3 := (H2.call1 (i := 1) rfl Hd).pick [0, 4, 2, 3, 5] (by decide)
          refine ops_call_val (ex_call gf15 rfl) (bytes_any (hd gt) (hd gu) _ _ ct cu _ (H3.rd (i := 3) rfl (u8s_length1 _) (by decide)) (H3.rd (i := 4) rfl (u8s_length1 _) (by decide)) (Nat.le_trans (textStep_len b m i e) (by omega)) (Nat.le_trans (textStep_len b' m i' e') (by omega))) ?_
          intro w4 Hd
          have H4 := (H3.call0 Hd).pick [0, 1, 3] (by decide)
          have hxl := textStep_len b m i e
          generalize hX : (textStep b m i e).1 = X at *
          refine ops_val (ex_assign rfl) ?_
          refine ops_nil ?_
          change Run _ _ _ _ [_, _, _, _, _, _, _, _, _, _, _, _, _, _, _, _, _, _, _, _, _, _, _, _, _, _, _, _, _, _, _, _, _, _, _, _, _, _, _, _, _, _, _, _, _, _, _, _, _, _, _, _, _, _, _, _, _, _, _, _, _, _, _, _, _, _, _, _, _, _, _] _
          refine run_seq ?_
          refine run_seq ?_
          refine run_region ?_
          refine ops_val (ex_assign rfl) ?_
          refine ops_nil ?_
          change Run _ _ _ _ [_, _, _, _, _, _, _, _, _, _, _, _, _, _, _, _, _, _, _, _, _, _, _, _, _, _, _, _, _, _, _, _, _, _, _, _, _, _, _, _, _, _, _, _, _, _, _, _, _, _, _, _, _, _, _, _, _, _, _, _, _, _, _, _, _, _, _, _, _, _, _] _
          refine run_block ?_
          refine run_loop (fun n l w => ∃ (q : Nat) (y : Int) (cs : List Value), X.length - q = n ∧ Fits [some (.pointer (some ⟨gr, 0, none⟩)), some (.pointer (some ⟨gw, 0, none⟩)), some (.agg [.int .i64 k, .int .i64 m].toArray), none, none, some (.pointer (some ⟨gb, 0, none⟩)), none, some (.slice (hd gt) X.length ct), some (.bool (decide (X = (textStep b' m i' e').1))), some (.int .i64 y), none, none, none, none, none, none, none, none, none, none, none, none, none, none, none, none, none, none, none, none, none, none, none, none, none, none, none, none, none, none, none, none, none, none, none, none, none, none, none, none, none, none, none, none, none, none, none, none, none, none, none, none, none, none, none, none, none, none, none, none, none] l ∧ y = q ∧ q ≤ X.length ∧ X.length ≤ cs.length ∧ Hp w0 w [gr, gw] [(some gr, 52, rc A b c (textStep b m i e).2.1 (textStep b m i e).2.2), (some gw, 50, rc A' b' c' (textStep b' m i' e').2.1 (textStep b' m i' e').2.2), (gt, 5, cs)]) (X.length) ?_ ?_
          · exact ⟨0, _, _, rfl, (fs (fs (fs (fn (fn (fs (fn (fs (fs (fs (fn (fn (fn (fn (fn (fn (fn (fn (fn (fn (fn (fn (fn (fn (fn (fn (fn (fn (fn (fn (fn (fn (fn (fn (fn (fn (fn (fn (fn (fn (fn (fn (fn (fn (fn (fn (fn (fn (fn (fn (fn (fn (fn (fn (fn (fn (fn (fn (fn (fn (fn (fn (fn (fn (fn (fn (fn (fn (fn (fn (fn f0))))))))))))))))))))))))))))))))))))))))))))))))))))))))))))))))))))))), rfl, Nat.zero_le _, by simp [u8s], H4⟩
          · rintro n l w5 ⟨q, y, cs, rfl, hfit, rfl, hj, hcs, H5⟩
            obtain ⟨j, rfl⟩ := hfit.open
            change Run _ _ _ _ [_, _, _, _, _, _, _, _, _, _, _, _, _, _, _, _, _, _, _, _, _, _, _, _, _, _, _, _, _, _, _, _, _, _, _, _, _, _, _, _, _, _, _, _, _, _, _, _, _, _, _, _, _, _, _, _, _, _, _, _, _, _, _, _, _, _, _, _, _, _, _] _
            clear hfit
            refine run_seq ?_
            refine run_seq ?_
            refine run_region ?_
            refine ops_val (ex_move rfl) ?_
            refine ops_val (ex_move rfl) ?_
            refine ops_val (ex_len_slice Try.underlying22 rfl) ?_
            refine ops_test (ex_lss rfl rfl) (fun hp48 => ?_) (fun hp48 => ?_)
            · have hjl : q < X.length := by omega
              obtain ⟨g, rfl⟩ : ∃ g, gt = some g := by
                cases gt with
                | none => have := ht3 rfl; omega
                | some g => exact ⟨g, rfl⟩
              refine ops_nil ?_
              change Run _ _ _ _ [_, _, _, _, _, _, _, _, _, _, _, _, _, _, _, _, _, _, _, _, _, _, _, _, _, _, _, _, _, _, _, _, _, _, _, _, _, _, _, _, _, _, _, _, _, _, _, _, _, _, _, _, _, _, _, _, _, _, _, _, _, _, _, _, _, _, _, _, _, _, _] _
              refine run_cond_true rfl ?_
              refine run_skip ?_
              refine run_seq ?_
              refine run_block ?_
              refine run_region ?_
              refine ops_val (ex_move rfl) ?_
              refine ops_val (ex_move rfl) ?_
              refine ops_val (ex_idx Try.underlying22 ty5 rfl rfl rfl hjl (Nat.mul_one _)) ?_
              rw [add0]
              refine ops_store1 ty5 H5 2 rfl rfl rfl rfl (by omega) rfl ?_
              intro w6 H6
              refine ops_nil ?_
              change Run _ _ _ _ [_, _, _, _, _, _, _, _, _, _, _, _, _, _, _, _, _, _, _, _, _, _, _, _, _, _, _, _, _, _, _, _, _, _, _, _, _, _, _, _, _, _, _, _, _, _, _, _, _, _, _, _, _, _, _, _, _, _, _, _, _, _, _, _, _, _, _, _, _, _, _] _
              refine run_nil (blk_normal ?_)
              refine run_region ?_
              refine ops_val (ex_move rfl) ?_
              refine ops_val (ex_add rfl rfl (IntWalk.i64_in _ (by omega))) ?_
              refine ops_val (ex_assign rfl) ?_
              refine ops_nil ?_
              change Run _ _ _ _ [_, _, _, _, _, _, _, _, _, _, _, _, _, _, _, _, _, _, _, _, _, _, _, _, _, _, _, _, _, _, _, _, _, _, _, _, _, _, _, _, _, _, _, _, _, _, _, _, _, _, _, _, _, _, _, _, _, _, _, _, _, _, _, _, _, _, _, _, _, _, _] _
              refine run_nil (rnd_normal ?_)
              exact ⟨X.length - (q + 1), by omega, q + 1, _, _, rfl, (fs (fs (fs (fn (fn (fs (fn (fs (fs (fs (fn (fn (fn (fn (fn (fn (fn (fn (fn (fn (fn (fn (fn (fn (fn (fn (fn (fn (fn (fn (fn (fn (fn (fn (fn (fn (fn (fn (fn (fn (fn (fn (fn (fn (fn (fn (fn (fn (fn (fn (fn (fn (fn (fn (fn (fn (fn (fn (fn (fn (fn (fn (fn (fn (fn (fn (fn (fn (fn (fn (fn f0))))))))))))))))))))))))))))))))))))))))))))))))))))))))))))))))))))))), rfl, by omega, by rw [List.length_set]; exact hcs, H6⟩
            · skip
              refine ops_nil ?_
              change Run _ _ _ _ [_, _, _, _, _, _, _, _, _, _, _, _, _, _, _, _, _, _, _, _, _, _, _, _, _, _, _, _, _, _, _, _, _, _, _, _, _, _, _, _, _, _, _, _, _, _, _, _, _, _, _, _, _, _, _, _, _, _, _, _, _, _, _, _, _, _, _, _, _, _, _] _
              refine run_cond_false rfl ?_
              refine run_exit ?_
              refine rnd_exit ?_
              refine blk_exit ?_
              refine run_seq ?_
              refine run_region ?_
              refine ops_val (ex_move rfl) ?_
              refine ops_val (ex_assign rfl) ?_
              refine ops_nil ?_
              change Run _ _ _ _ [_, _, _, _, _, _, _, _, _, _, _, _, _, _, _, _, _, _, _, _, _, _, _, _, _, _, _, _, _, _, _, _, _, _, _, _, _, _, _, _, _, _, _, _, _, _, _, _, _, _, _, _, _, _, _, _, _, _, _, _, _, _, _, _, _, _, _, _, _, _, _] _
              refine run_ret ?_
              refine blk_ret ?_
              refine fin_ret1 rfl rfl ?_
              rw [askAns4 hp34, askAns4 hp34, askAt4 hp34, askAt4 hp34, hX]
              exact ⟨congrArg Value.bool bytes_eq, H5.pick [0, 1] (by decide)⟩
        · skip
          refine ops_val (ex_assign rfl) ?_
          refine ops_nil ?_
          change Run _ _ _ _ [_, _, _, _, _, _, _, _, _, _, _, _, _, _, _, _, _, _, _, _, _, _, _, _, _, _, _, _, _, _, _, _, _, _, _, _, _, _, _, _, _, _, _, _, _, _, _, _, _, _, _, _, _, _, _, _, _, _, _, _, _, _, _, _, _, _, _, _, _, _, _] _
          refine run_cond_false rfl ?_
          refine run_seq ?_
          refine run_region ?_
          refine ops_test (ex_eql rfl rfl) (fun hp56 => ?_) (fun hp56 => ?_)
          · skip
            refine ops_val (ex_assign rfl) ?_
            refine ops_nil ?_
            change Run _ _ _ _ [_, _, _, _, _, _, _, _, _, _, _, _, _, _, _, _, _, _, _, _, _, _, _, _, _, _, _, _, _, _, _, _, _, _, _, _, _, _, _, _, _, _, _, _, _, _, _, _, _, _, _, _, _, _, _, _, _, _, _, _, _, _, _, _, _, _, _, _, _, _, _] _
            refine run_cond_true rfl ?_
            refine run_seq ?_
            refine run_mixH [(true, 0), (true, 1), (true, 2), (true, 4), (true, 5), (true, 6), (false, 3), (false, 7), (true, 8), (true, 9)] H1 [2] mixed (by decide) (by kernel_rfl) ?_
            rintro w2 hw2
            have H2 := Hp.drew H1; rw [← hw2] at H2
            have hD := (Hp.refl w1).drew
            rw [← hw2] at hD
            replace hR0 := hR0.to0 hD
            replace hW0 := hW0.to0 hD
            refine mix_p rfl ?_
            refine mix1_val (fun wz hz => ex_move rfl) ?_
            refine mix_p rfl ?_
            refine mix1_val (fun wz hz => ex_fieldAddr fl44_1 rfl) ?_
            refine mix_p rfl ?_
            refine mix1_val (fun wz hz => ex_load ty3 rfl (hz.cell (i := 0) rfl rfl)) ?_
            refine mix_p rfl ?_
            refine mix1_val (fun wz hz => ex_move rfl) ?_
            change Mixes _ _ _ _ _ _ [_, _, _, _, _, _, _, _, _, _, _, _, _, _, _, _, _, _, _, _, _, _, _, _, _, _, _, _, _, _, _, _, _, _, _, _, _, _, _, _, _, _, _, _, _, _, _, _, _, _, _, _, _, _, _, _, _, _, _, _, _, _, _, _, _, _, _, _, _, _, _] _
            refine mix_p rfl ?_
            refine mix1_val (fun wz hz => ex_fieldAddr fl44_1 rfl) ?_
            refine mix_p rfl ?_
            refine mix1_val (fun wz hz => ex_load ty3 rfl (hz.cell (i := 0) rfl rfl)) ?_
            refine mix_o rfl ?_
            refine ops_call_val (ex_call gf27 rfl) (count_rd gr _ _ b i e _ hR0 m hlo hhi) ?_
            intro w3 Hd
            have H3 := (H2.call1 (i := 0) rfl Hd).pick [3, 1, 2] (by decide)
            have hW1 := hW0.past Hd hn.symm h2
            refine ops_nil ?_
            refine ⟨H3.pick [2] (by decide), ?_⟩
            change Mixes _ _ _ _ _ _ [_, _, _, _, _, _, _, _, _, _, _, _, _, _, _, _, _, _, _, _, _, _, _, _, _, _, _, _, _, _, _, _, _, _, _, _, _, _, _, _, _, _, _, _, _, _, _, _, _, _, _, _, _, _, _, _, _, _, _, _, _, _, _, _, _, _, _, _, _, _, _] _
            refine mix_o rfl ?_
            refine ops_call_val (ex_call gf40 rfl) (countW_rd gw _ _ b' i' e' _ hW1 m hlo hhi) ?_
            intro w4 Hd
            have H4 := (H3.call1 (i := 1) rfl Hd).pick [0, 3, 2] (by decide)
            refine ops_nil ?_
            refine ⟨H4.pick [2] (by decide), ?_⟩
            change Mixes _ _ _ _ _ _ [_, _, _, _, _, _, _, _, _, _, _, _, _, _, _, _, _, _, _, _, _, _, _, _, _, _, _, _, _, _, _, _, _, _, _, _, _, _, _, _, _, _, _, _, _, _, _, _, _, _, _, _, _, _, _, _, _, _, _, _, _, _, _, _, _, _, _, _, _, _, _] _
            refine mix_p rfl ?_
            refine mix1_val (fun wz hz => ex_eql rfl rfl) ?_
            refine mix_p rfl ?_
            refine mix1_val (fun wz hz => ex_assign rfl) ?_
            refine mix_nil ?_
            change Run _ _ _ _ [_, _, _, _, _, _, _, _, _, _, _, _, _, _, _, _, _, _, _, _, _, _, _, _, _, _, _, _, _, _, _, _, _, _, _, _, _, _, _, _, _, _, _, _, _, _, _, _, _, _, _, _, _, _, _, _, _, _, _, _, _, _, _, _, _, _, _, _, _, _, _] _
            refine run_ret ?_
            refine blk_ret ?_
            refine fin_ret1 rfl rfl ?_
            rw [askAns5 hp56, askAns5 hp56, askAt5 hp56, askAt5 hp56]
            exact ⟨congrArg Value.bool one_eq, H4.pick [0, 1] (by decide)⟩
          · skip
            refine ops_val (ex_assign rfl) ?_
            refine ops_nil ?_
            change Run _ _ _ _ [_, _, _, _, _, _, _, _, _, _, _, _, _, _, _, _, _, _, _, _, _, _, _, _, _, _, _, _, _, _, _, _, _, _, _, _, _, _, _, _, _, _, _, _, _, _, _, _, _, _, _, _, _, _, _, _, _, _, _, _, _, _, _, _, _, _, _, _, _, _, _] _
            refine run_cond_false rfl ?_
            refine run_skip ?_
            refine run_nil (blk_normal ?_)
            refine run_seq ?_
            refine run_region ?_
            refine ops_val (ex_move rfl) ?_
            refine ops_call_val (ex_call gf10 rfl) (num_rd gr _ _ b i e _ hR0) ?_
            intro w2 Hd
            have H2 := (H1.call1 (i := 0) rfl Hd).pick [3, 1, 2] (by decide)
            have hW1 := hW0.past Hd hn.symm h2
            refine ops_val (ex_move rfl) ?_
            refine ops_call_val (ex_call gf41 rfl) (numW_rd gw _ _ b' i' e' _ hW1) ?_
            intro w3 Hd
            have H3 := (H2.call1 (i := 1) rfl Hd).pick [0, 3, 2] (by decide)
            change Ops _ _ _ _ _ _ [_, _, _, _, _, _, _, _, _, _, _, _, _, _, _, _, _, _, _, _, _, _, _, _, _, _, _, _, _, _, _, _, _, _, _, _, _, _, _, _, _, _, _, _, _, _, _, _, _, _, _, _, _, _, _, _, _, _, _, _, _, _, _, _, _, _, _, _, _, _, _] _
            refine ops_val (ex_eql rfl rfl) ?_
            refine ops_val (ex_assign rfl) ?_
            refine ops_nil ?_
            change Run _ _ _ _ [_, _, _, _, _, _, _, _, _, _, _, _, _, _, _, _, _, _, _, _, _, _, _, _, _, _, _, _, _, _, _, _, _, _, _, _, _, _, _, _, _, _, _, _, _, _, _, _, _, _, _, _, _, _, _, _, _, _, _, _, _, _, _, _, _, _, _, _, _, _, _] _
            refine run_ret ?_
            refine fin_ret1 rfl rfl ?_
            rw [askAns6 hp13 hp20 hp27 hp34 hp56, askAns6 hp13 hp20 hp27 hp34 hp56, askAt6 hp13 hp20 hp27 hp34 hp56, askAt6 hp13 hp20 hp27 hp34 hp56]
            exact ⟨congrArg Value.bool one_eq, H3.pick [0, 1] (by decide)⟩
end Go.Proofs.Ytlglenbmpikhmaa
