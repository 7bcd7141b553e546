/- Walks of layer 2, printed by wip/gen/codec.py. -/
import Derived.Test.YtgkciibfpenjpaaNrm
import Derived.Test.YtgkciibfpenjpaaLw
namespace Go.Proofs.Ytgkciibfpenjpaa
open Go Go.RowKit
set_option linter.unusedVariables false
attribute [local irreducible] Still Ops Does Cd
theorem cost_push {σ : Sx} {m2 : Mw} {D2 : Dk} {k2 : Mk} {gc g : Option Nat} {cc c : Nat} {cl : List Nat} {sp s : List Value} {b : Blk} (h : CostOk σ gc cc cl sp) (hf : σ.K.first ≤ σ.K.all.length) (hm : cl.length + 1 ≤ c) (hc : c ≤ (i64n (cl ++ [wgt b.length]) ++ s).length) (hn : g = none → c = 0) : CostOk ⟨m2, D2, σ.W.took σ.D b, k2, σ.K.push b⟩ g c (cl ++ [wgt b.length]) s := by
  refine ⟨?_, ?_, by rw [List.length_append]; exact hm, hc, hn⟩
  · show _ = (σ.K.all ++ [b]).length
    rw [List.length_append, List.length_append, h.len]; rfl
  · show (cl ++ [wgt b.length]).drop σ.K.first = (σ.W.recs ++ [b]).map _
    rw [List.drop_append_of_le_length (by rw [h.len]; exact hf), h.sum, List.map_append]; rfl
set_option maxRecDepth 100000 in
set_option maxHeartbeats 8000000 in
theorem walRoom_any (a0 : Int) (A : Option Addr) (xs : List Int) (cz : Nat) (a2 : Int) (w0 : World) (hA : Rd w0 A xs.length 1 (i64s xs)) :
    Does Try.prog 3 #[.int .i64 a0, .slice A xs.length cz, .int .i64 a2] w0 (fun r w' => r = .bool true ∧ Hp w0 w' [] []) := by
  refine does_of Try.func3 Try.ntmps3 rfl ?_
  refine nR148 ?_
  have H := Hp.refl w0
  refine run_seq ?_
  refine run_region ?_
  refine ops_val (ex_assign rfl) ?_
  refine ops_nil ?_
  refine nR148 ?_
  refine run_seq ?_
  refine run_region ?_
  refine ops_val (ex_move rfl) ?_
  obtain ⟨u, huu⟩ := u64_nat a0
  refine ops_val (ex_conv Try.underlying23 Try.underlying3 rfl huu) ?_
  refine ops_val (ex_rem rfl rfl (by omega) (tmodN u 1000)) ?_
  have hnb : u % 1000 < 1000 := Nat.mod_lt _ (by decide)
  generalize u % 1000 = nb at hnb
  refine ops_val (ex_conv Try.underlying3 Try.underlying23 rfl (IntWalk.i64_in _ (by omega))) ?_
  refine nO148 ?_
  refine ops_val (ex_add rfl rfl ((IntWalk.i64_in _ (by omega)).trans (show ((64 : Int) + (nb : Int)) = ((64 + nb : Nat) : Int) by omega))) ?_
  have hN0 : 64 ≤ 64 + nb := by omega
  have hN1 : 64 + nb ≤ 1063 := by omega
  generalize 64 + nb = N at hN0 hN1
  refine ops_val (ex_assign rfl) ?_
  refine ops_nil ?_
  refine nR148 ?_
  refine run_seq ?_
  refine run_region ?_
  refine ops_val (ex_move rfl) ?_
  refine ops_call (ex_call gf9 rfl) (liveBegin_any N _ hN0 (by omega)) ?_
  rintro r w1 ⟨s0, hr, hl, hag, hrc, hfs, htd, hka, hkf, Hc⟩
  rw [hr]
  have HB : Hp w0 w1 [] (s0.rows ++ []) := by rw [List.append_nil]; exact (H.call0 Hc).right
  have H1 := HB.here
  refine ops_val (ex_assign rfl) ?_
  refine ops_nil ?_
  refine nR148 ?_
  refine run_seq ?_
  refine run_seq ?_
  refine run_region ?_
  refine ops_call_val (ex_call gf10 rfl) (awake_any _) ?_
  intro w2 Hd
  replace hl := hl.keep0 Hd
  have H2 := H1.callN Hd
  refine ops_val (ex_not rfl) ?_
  refine ops_val (ex_move rfl) ?_
  refine nO148 ?_
  refine ops_yes rfl ?_
  refine ops_val (ex_move rfl) ?_
  refine ops_yes rfl ?_
  refine ops_false (ex_eql_nil_ptr Try.underlying24 rfl) (by simp) ?_
  refine ops_val (ex_pick_f rfl rfl) ?_
  refine ops_nil ?_
  refine nR148 ?_
  refine run_cond_false rfl ?_
  refine run_skip ?_
  refine run_seq ?_
  refine run_region ?_
  refine ops_val (ex_assign rfl) ?_
  refine ops_nil ?_
  refine nR148 ?_
  refine run_seq ?_
  refine run_seq ?_
  refine run_region ?_
  refine ops_val (ex_assign rfl) ?_
  have HB : Hp w0 w2 [] (s0.rows ++ []) := HB.all H2
  have hl1 : Live w2 s0 [((none, 3, i64n [] ++ []) : Ent)] N 0 := hl.grow (HB.here.nil 3) rfl
  have HC : Hp w0 w2 [] (s0.rows ++ [((none, 3, i64n [] ++ []) : Ent)]) := HB.nil 3
  refine ops_nil ?_
  refine nR148 ?_
  refine run_block ?_
  refine run_loop (fun n l w => ∃ (q : Nat) (y : Int) (s : Sx) (gc : Option Nat) (cc : Nat) (cl : List Nat) (sp : List Value), 5 - q = n ∧ Fits [some (.int .i64 (N : Int)), some (.slice A xs.length cz), some (.int .i64 a2), none, none, none, none, some (.pointer (some ⟨s0.k.gb, 0, none⟩)), some (.slice (hd gc) cl.length cc), some (.int .i64 y), none, none, none, none, none, none, none, none, none, none, none, none, none, none, none, none, none, none, none, none, none, none, none, none, none, none, none, none, none, none, none, none, none, none, none, none, none, none, none, none, none, none, none, none, none, none, none, none, none, none, none, none, none, none, none, none, none, none, none, none, none, none, none, none, none, none, none, none, none, none, none, none, none, none, none, none, none, none, none, none, none, none, none, none, none, none, none, none, none, none, none, none, none, none, none, none, none, none, none, none, none, none, none, none, none, none, none, none, none, none, none, none, none, none, none, none, none, none, none, none, none, none, none, none, none, none, none, none, none, none, none, none, none, none, none, none, none, none] l ∧ y = (q : Int) ∧ q ≤ 4 ∧ s.k.gb = s0.k.gb ∧ Live w s [((gc, 3, i64n cl ++ sp) : Ent)] N (61 * q) ∧ Agr s.W s.K ∧ CostOk s gc cc cl sp ∧ Hp w0 w [] (s.rows ++ [((gc, 3, i64n cl ++ sp) : Ent)])) (5) ?_ ?_
  · exact ⟨0, _, s0, none, 0, [], [], rfl, (fs (fs (fs (fn (fn (fn (fn (fs (fs (fs (fn (fn (fn (fn (fn (fn (fn (fn (fn (fn (fn (fn (fn (fn (fn (fn (fn (fn (fn (fn (fn (fn (fn (fn (fn (fn (fn (fn (fn (fn (fn (fn (fn (fn (fn (fn (fn (fn (fn (fn (fn (fn (fn (fn (fn (fn (fn (fn (fn (fn (fn (fn (fn (fn (fn (fn (fn (fn (fn (fn (fn (fn (fn (fn (fn (fn (fn (fn (fn (fn (fn (fn (fn (fn (fn (fn (fn (fn (fn (fn (fn (fn (fn (fn (fn (fn (fn (fn (fn (fn (fn (fn (fn (fn (fn (fn (fn (fn (fn (fn (fn (fn (fn (fn (fn (fn (fn (fn (fn (fn (fn (fn (fn (fn (fn (fn (fn (fn (fn (fn (fn (fn (fn (fn (fn (fn (fn (fn (fn (fn (fn (fn (fn (fn (fn (fn (fn (fn f0)))))))))))))))))))))))))))))))))))))))))))))))))))))))))))))))))))))))))))))))))))))))))))))))))))))))))))))))))))))))))))))))))))))))))))))))))))), rfl, Nat.zero_le _, rfl, hl1, hag, ⟨by rw [hka]; rfl, by rw [hrc, hkf]; rfl, Nat.le_refl _, Nat.zero_le _, fun _ => rfl⟩, HC⟩
  · rintro n l w3 ⟨q, y, s, gc, cc, cl, sp, rfl, hfit, rfl, hq, hgb, hl, hag, hco, H3⟩
    obtain ⟨j, rfl⟩ := hfit.open
    refine nR148 ?_
    clear hfit
    have HB := H3
    replace H3 := HB.here
    rw [← hgb]
    refine run_seq ?_
    refine run_seq ?_
    refine run_region ?_
    refine ops_val (ex_move rfl) ?_
    refine ops_val (ex_move rfl) ?_
    obtain ⟨u2, huu2⟩ := u64_nat a2
    refine ops_val (ex_conv Try.underlying23 Try.underlying3 rfl huu2) ?_
    refine ops_val (ex_rem rfl rfl (by omega) (tmodN u2 4)) ?_
    have hR : u2 % 4 < 4 := Nat.mod_lt _ (by decide)
    refine nO148 ?_
    refine ops_val (ex_conv Try.underlying3 Try.underlying23 rfl (IntWalk.i64_in _ (by omega))) ?_
    refine ops_test (ex_leq rfl rfl) (fun hp33 => ?_) (fun hp33 => ?_)
    · have hq3 : q ≤ 3 := by omega
      refine ops_nil ?_
      refine nR148 ?_
      refine run_cond_true rfl ?_
      refine run_skip ?_
      refine run_seq ?_
      refine run_block ?_
      refine run_seq ?_
      refine run_seq ?_
      refine run_region ?_
      refine ops_val (ex_assign rfl) ?_
      refine ops_nil ?_
      refine nR148 ?_
      refine run_block ?_
      refine run_loop (fun n l w => ∃ (i : Nat) (y2 : Int) (s2 : Sx) (gd : Option Nat) (cd : Nat) (cm : List Nat) (sq : List Value), 60 - i = n ∧ Fits [some (.int .i64 (N : Int)), some (.slice A xs.length cz), some (.int .i64 a2), none, none, none, none, some (.pointer (some ⟨s.k.gb, 0, none⟩)), some (.slice (hd gd) cm.length cd), some (.int .i64 (q : Int)), some (.int .i64 y2), none, none, none, none, none, none, none, none, none, none, none, none, none, none, none, none, none, none, none, none, none, none, none, none, none, none, none, none, none, none, none, none, none, none, none, none, none, none, none, none, none, none, none, none, none, none, none, none, none, none, none, none, none, none, none, none, none, none, none, none, none, none, none, none, none, none, none, none, none, none, none, none, none, none, none, none, none, none, none, none, none, none, none, none, none, none, none, none, none, none, none, none, none, none, none, none, none, none, none, none, none, none, none, none, none, none, none, none, none, none, none, none, none, none, none, none, none, none, none, none, none, none, none, none, none, none, none, none, none, none, none, none, none, none, none, none, none] l ∧ y2 = (i : Int) ∧ i ≤ 60 ∧ s2.k.gb = s.k.gb ∧ Live w s2 [((gd, 3, i64n cm ++ sq) : Ent)] N (61 * q + i) ∧ Agr s2.W s2.K ∧ CostOk s2 gd cd cm sq ∧ Hp w0 w [] (s2.rows ++ [((gd, 3, i64n cm ++ sq) : Ent)])) (60) ?_ ?_
      · exact ⟨0, _, s, gc, cc, cl, sp, rfl, (fs (fs (fs (fn (fn (fn (fn (fs (fs (fs (fs (fn (fn (fn (fn (fn (fn (fn (fn (fn (fn (fn (fn (fn (fn (fn (fn (fn (fn (fn (fn (fn (fn (fn (fn (fn (fn (fn (fn (fn (fn (fn (fn (fn (fn (fn (fn (fn (fn (fn (fn (fn (fn (fn (fn (fn (fn (fn (fn (fn (fn (fn (fn (fn (fn (fn (fn (fn (fn (fn (fn (fn (fn (fn (fn (fn (fn (fn (fn (fn (fn (fn (fn (fn (fn (fn (fn (fn (fn (fn (fn (fn (fn (fn (fn (fn (fn (fn (fn (fn (fn (fn (fn (fn (fn (fn (fn (fn (fn (fn (fn (fn (fn (fn (fn (fn (fn (fn (fn (fn (fn (fn (fn (fn (fn (fn (fn (fn (fn (fn (fn (fn (fn (fn (fn (fn (fn (fn (fn (fn (fn (fn (fn (fn (fn (fn (fn (fn f0)))))))))))))))))))))))))))))))))))))))))))))))))))))))))))))))))))))))))))))))))))))))))))))))))))))))))))))))))))))))))))))))))))))))))))))))))))), rfl, Nat.zero_le _, rfl, hl, hag, hco, HB.all H3⟩
      · rintro n l w4 ⟨i, y2, s2, gd, cd, cm, sq, rfl, hfit, rfl, hi, hgb2, hl, hag, hco, H4⟩
        obtain ⟨j, rfl⟩ := hfit.open
        refine nR148 ?_
        clear hfit
        have HB := H4
        replace H4 := HB.here
        rw [← hgb2]
        have hn1 := hag.next
        have hf1 := hag.first
        have hln := hco.len
        have hnx := hl.next
        have hus := hl.ok.ok.used
        refine run_seq ?_
        refine run_seq ?_
        refine run_region ?_
        refine ops_val (ex_move rfl) ?_
        refine ops_val (ex_move rfl) ?_
        refine ops_val (ex_len_slice Try.underlying22 rfl) ?_
        refine ops_test (ex_lss rfl rfl) (fun hp39 => ?_) (fun hp39 => ?_)
        · have hix : i < xs.length := by omega
          refine ops_val (ex_move rfl) ?_
          refine nO148 ?_
          refine ops_yes rfl ?_
          refine ops_val (ex_move rfl) ?_
          refine ops_yes rfl ?_
          refine ops_test (ex_lss rfl rfl) (fun hp42 => ?_) (fun hp42 => ?_)
          · have hi6 : i < 60 := by omega
            refine ops_val (ex_pick_t rfl rfl) ?_
            refine ops_nil ?_
            refine nR148 ?_
            refine run_cond_true rfl ?_
            refine run_skip ?_
            refine run_seq ?_
            refine run_block ?_
            refine run_seq ?_
            refine run_region ?_
            refine ops_val (ex_move rfl) ?_
            refine ops_val (ex_move rfl) ?_
            obtain ⟨pa, rfl⟩ := hA.some_ (by omega)
            refine ops_val (ex_idx Try.underlying22 ty3 rfl rfl rfl hix (Nat.mul_one _)) ?_
            refine ops_val (ex_load ty3 rfl ((hA.to0 HB).cells pa rfl i _ (i64s_get hix))) ?_
            refine nO148 ?_
            obtain ⟨u5, huu5⟩ := u64_nat xs[i]
            refine ops_val (ex_conv Try.underlying23 Try.underlying3 rfl huu5) ?_
            refine ops_val (ex_rem rfl rfl (by omega) (tmodN u5 600)) ?_
            have hkk : u5 % 600 < 600 := Nat.mod_lt _ (by decide)
            generalize u5 % 600 = kk at hkk
            have hwk : wgt kk ≤ 12 := by unfold wgt; omega
            refine ops_val (ex_conv Try.underlying3 Try.underlying23 rfl (IntWalk.i64_in _ (by omega))) ?_
            refine ops_val (ex_assign rfl) ?_
            refine ops_nil ?_
            refine nR148 ?_
            refine run_seq ?_
            refine run_region ?_
            refine ops_val (ex_move rfl) ?_
            refine ops_val (ex_add rfl rfl (IntWalk.i64_in _ (by omega))) ?_
            refine ops_val (ex_quo rfl rfl (by omega) (w63 kk (by omega))) ?_
            refine ops_val (ex_add rfl rfl ((IntWalk.i64_in _ (by omega)).trans (show ((((kk + 63) / 64 : Nat) : Int) + 2) = ((wgt kk : Nat) : Int) by unfold wgt; omega))) ?_
            refine nO148 ?_
            refine ops_val (ex_assign rfl) ?_
            refine ops_nil ?_
            refine nR148 ?_
            refine run_seq ?_
            refine run_seq ?_
            refine run_region ?_
            refine ops_val (ex_move rfl) ?_
            refine ops_val (ex_nilCheck rfl) ?_
            refine ops_val (ex_fieldAddr fl31_5 rfl) ?_
            refine ops_val (ex_load ty3 rfl (H4.cell (i := 6) rfl rfl)) ?_
            refine nO148 ?_
            refine ops_val (ex_assign rfl) ?_
            refine ops_nil ?_
            refine nR148 ?_
            refine run_block ?_
            refine run_loop (fun n l w => ∃ (jj : Nat) (ys yj : Int), cm.length - jj = n ∧ Fits [some (.int .i64 (N : Int)), some (.slice (some pa) xs.length cz), some (.int .i64 a2), none, none, none, none, some (.pointer (some ⟨s2.k.gb, 0, none⟩)), some (.slice (hd gd) cm.length cd), some (.int .i64 (q : Int)), some (.int .i64 (i : Int)), some (.int .i64 (kk : Int)), some (.int .i64 ys), some (.int .i64 yj), none, none, none, none, none, none, none, none, none, none, none, none, none, none, none, none, none, none, none, none, none, none, none, none, none, none, none, none, none, none, none, none, none, none, none, none, none, none, none, none, none, none, none, none, none, none, none, none, none, none, none, none, none, none, none, none, none, none, none, none, none, none, none, none, none, none, none, none, none, none, none, none, none, none, none, none, none, none, none, none, none, none, none, none, none, none, none, none, none, none, none, none, none, none, none, none, none, none, none, none, none, none, none, none, none, none, none, none, none, none, none, none, none, none, none, none, none, none, none, none, none, none, none, none, none, none, none, none, none, none, none, none, none, none] l ∧ yj = (jj : Int) ∧ s2.K.first ≤ jj ∧ jj ≤ cm.length ∧ ys = ((wgt kk + ((cm.drop s2.K.first).take (jj - s2.K.first)).sum : Nat) : Int) ∧ Hp w4 w [] []) (cm.length - s2.K.first) ?_ ?_
            · exact ⟨s2.K.first, _, _, rfl, (fs (fs (fs (fn (fn (fn (fn (fs (fs (fs (fs (fs (fs (fs (fn (fn (fn (fn (fn (fn (fn (fn (fn (fn (fn (fn (fn (fn (fn (fn (fn (fn (fn (fn (fn (fn (fn (fn (fn (fn (fn (fn (fn (fn (fn (fn (fn (fn (fn (fn (fn (fn (fn (fn (fn (fn (fn (fn (fn (fn (fn (fn (fn (fn (fn (fn (fn (fn (fn (fn (fn (fn (fn (fn (fn (fn (fn (fn (fn (fn (fn (fn (fn (fn (fn (fn (fn (fn (fn (fn (fn (fn (fn (fn (fn (fn (fn (fn (fn (fn (fn (fn (fn (fn (fn (fn (fn (fn (fn (fn (fn (fn (fn (fn (fn (fn (fn (fn (fn (fn (fn (fn (fn (fn (fn (fn (fn (fn (fn (fn (fn (fn (fn (fn (fn (fn (fn (fn (fn (fn (fn (fn (fn (fn (fn (fn (fn (fn f0)))))))))))))))))))))))))))))))))))))))))))))))))))))))))))))))))))))))))))))))))))))))))))))))))))))))))))))))))))))))))))))))))))))))))))))))))))), rfl, Nat.le_refl _, by omega, by rw [Nat.sub_self]; rfl, Hp.refl _⟩
            · rintro n l w5 ⟨jj, ys, yj, rfl, hfit, rfl, hj1, hj2, rfl, H5⟩
              obtain ⟨j, rfl⟩ := hfit.open
              refine nR148 ?_
              clear hfit
              have hsm := take_sum_le (cm.drop s2.K.first) (jj - s2.K.first)
              rw [hco.used] at hsm
              refine run_seq ?_
              refine run_seq ?_
              refine run_region ?_
              refine ops_val (ex_move rfl) ?_
              refine ops_val (ex_move rfl) ?_
              refine ops_val (ex_len_slice Try.underlying22 rfl) ?_
              refine ops_test (ex_lss rfl rfl) (fun hp64 => ?_) (fun hp64 => ?_)
              · have hjl : jj < cm.length := by omega
                have hst := sum_step hj1 hjl
                have hsm2 := take_sum_le (cm.drop s2.K.first) (jj + 1 - s2.K.first)
                rw [hco.used] at hsm2
                obtain ⟨gy, rfl⟩ := own_some HB (i := 8) rfl (by rw [List.length_append, i64n_len]; omega)
                refine ops_nil ?_
                refine nR148 ?_
                refine run_cond_true rfl ?_
                refine run_skip ?_
                refine run_seq ?_
                refine run_block ?_
                refine run_region ?_
                refine ops_val (ex_move rfl) ?_
                refine ops_val (ex_move rfl) ?_
                refine ops_val (ex_move rfl) ?_
                refine ops_val (ex_idx Try.underlying22 ty3 rfl rfl rfl hjl (Nat.mul_one _)) ?_
                refine nO148 ?_
                refine ops_val (ex_load ty3 rfl ((Rd.to0 (HB.rd (i := 8) (o := some gy) (xs := i64n cm) (sp := sq) rfl (by rw [i64n_len, Nat.mul_one]) (by decide)) H5).cells _ rfl jj _ (i64n_get hjl))) ?_
                refine ops_val (ex_add rfl rfl ((IntWalk.i64_in _ (by omega)).trans (show _ = ((wgt kk + ((cm.drop s2.K.first).take (jj + 1 - s2.K.first)).sum : Nat) : Int) by rw [hst]; omega))) ?_
                refine ops_val (ex_assign rfl) ?_
                refine ops_nil ?_
                refine nR148 ?_
                refine run_nil (blk_normal ?_)
                refine run_region ?_
                refine ops_val (ex_move rfl) ?_
                refine ops_val (ex_add rfl rfl (IntWalk.i64_in _ (by omega))) ?_
                refine ops_val (ex_assign rfl) ?_
                refine ops_nil ?_
                refine nR148 ?_
                refine run_nil (rnd_normal ?_)
                exact ⟨cm.length - (jj + 1), by omega, jj + 1, _, _, rfl, (fs (fs (fs (fn (fn (fn (fn (fs (fs (fs (fs (fs (fs (fs (fn (fn (fn (fn (fn (fn (fn (fn (fn (fn (fn (fn (fn (fn (fn (fn (fn (fn (fn (fn (fn (fn (fn (fn (fn (fn (fn (fn (fn (fn (fn (fn (fn (fn (fn (fn (fn (fn (fn (fn (fn (fn (fn (fn (fn (fn (fn (fn (fn (fn (fn (fn (fn (fn (fn (fn (fn (fn (fn (fn (fn (fn (fn (fn (fn (fn (fn (fn (fn (fn (fn (fn (fn (fn (fn (fn (fn (fn (fn (fn (fn (fn (fn (fn (fn (fn (fn (fn (fn (fn (fn (fn (fn (fn (fn (fn (fn (fn (fn (fn (fn (fn (fn (fn (fn (fn (fn (fn (fn (fn (fn (fn (fn (fn (fn (fn (fn (fn (fn (fn (fn (fn (fn (fn (fn (fn (fn (fn (fn (fn (fn (fn (fn (fn f0)))))))))))))))))))))))))))))))))))))))))))))))))))))))))))))))))))))))))))))))))))))))))))))))))))))))))))))))))))))))))))))))))))))))))))))))))))), by omega, by omega, by omega, rfl, H5⟩
              · have hje : jj = cm.length := by omega
                subst hje
                rw [List.take_of_length_le (by rw [List.length_drop]; exact Nat.le_refl _), hco.used] at hsm ⊢
                replace HB := HB.callN H5
                replace hl := hl.keep0 H5
                replace H5 := HB.here
                refine ops_nil ?_
                refine nR148 ?_
                refine run_cond_false rfl ?_
                refine run_exit ?_
                refine rnd_exit ?_
                refine blk_exit ?_
                refine run_seq ?_
                refine run_mixZ 7 [(true, 0), (true, 1), (true, 2), (true, 3), (true, 4), (false, 5), (false, 6), (false, 7)] H5 [6] mixed (by decide) (by kernel_rfl) ?_
                rintro w6 hw6
                have H6 := Hp.drew H5; rw [← hw6] at H6
                refine mixz_p rfl ?_
                refine mix1_val (fun wz hz => ex_move rfl) ?_
                refine mixz_p rfl ?_
                refine mix1_val (fun wz hz => ex_nilCheck rfl) ?_
                refine mixz_p rfl ?_
                refine mix1_val (fun wz hz => ex_fieldAddr fl31_1 rfl) ?_
                refine mixz_p rfl ?_
                refine mix1_val (fun wz hz => ex_load ty28 rfl (hz.cell (i := 0) rfl rfl)) ?_
                refine nZ148 ?_
                refine mixz_p rfl ?_
                refine mix1_val (fun wz hz => ex_move rfl) ?_
                refine mixz_o rfl ?_
                refine ops_make Try.underlying34 ty5 H6 rfl rfl (n := kk) (c := kk) (Nat.le_refl _) (by omega) (by omega) ?_
                intro w7 g78 H7 hg78
                replace hl : Live w7 s2 ([((gd, 3, i64n cm ++ sq) : Ent)] ++ [((some g78, 5, List.replicate kk (.int .u8 0)) : Ent)]) N (61 * q + i) := hl.grow H7 rfl
                refine ops_nil ?_
                refine ⟨fun hne => H7.pick [6] (by decide), ?_⟩
                refine nZ148 ?_
                refine mixz_o rfl ?_
                have HB : Hp w0 w7 [] (s2.rows ++ ([((gd, 3, i64n cm ++ sq) : Ent)] ++ [((some g78, 5, List.replicate kk (.int .u8 0)) : Ent)])) := HB.all H7
                have hZl : (List.replicate kk 0 : Blk).length = kk := List.length_replicate ..
                have hwt := hl.wait
                have hcall := append_any s2.m s2.D s2.W _ HB.less.less.here hl.ok.ok (hd (some g78)) (List.replicate kk 0 : Blk) kk (by rw [u8s_zero, List.length_replicate]; exact HB.rd (i := 9) (o := some g78) (xs := List.replicate kk (.int .u8 0)) (sp := []) (by rw [List.append_nil]; rfl) (by rw [List.length_replicate, Nat.mul_one]) (by decide)) (fun _ p hp hx => by simp only [hd, Option.map_some, Option.some.injEq] at hp; subst hp; exact row_not HB (i := 9) rfl (is := [0, 1, 2, 3, 4, 5]) (by decide) hx) (by rw [hZl]; omega) (by omega)
                rw [hZl] at hcall
                refine ops_call (ex_call gf11 rfl) hcall ?_
                rintro r w8 ⟨x, D1, W1, hr, hres, hwp⟩
                rw [hr]
                obtain ⟨q1, hl, Hc, hcase⟩ := hl.app (lt_rest2 HB) (by rw [hZl]; omega) hres hwp
                rw [hZl] at hcase
                have HB : Hp w0 w8 [] ((⟨mv s2.m q1, D1, W1, s2.k, s2.K⟩ : Sx).rows ++ ([((gd, 3, i64n cm ++ sq) : Ent)] ++ [((some g78, 5, List.replicate kk (.int .u8 0)) : Ent)])) := HB.front2 Hc
                have H8 := Hp.front2 (a := wRows s2.m s2.D s2.W) (b := kRows s2.m s2.k s2.K) (R := ([((gd, 3, i64n cm ++ sq) : Ent)] ++ [((some g78, 5, List.replicate kk (.int .u8 0)) : Ent)])) H7 Hc
                refine ops_nil ?_
                refine ⟨fun hne => H8.pick [6] (by decide), ?_⟩
                refine nZ148 ?_
                refine mixz_o rfl ?_
                refine ops_val (ex_assign rfl) ?_
                refine ops_nil ?_
                refine ⟨fun hne => absurd rfl hne, ?_⟩
                refine nZ148 ?_
                refine mixz_nil ?_
                refine nR148 ?_
                refine run_seq ?_
                refine run_seq ?_
                refine run_region ?_
                refine ops_val (ex_move rfl) ?_
                replace H8 := HB.here
                refine ops_val (ex_move rfl) ?_
                refine ops_val (ex_quo rfl rfl (by omega) (half N (by omega))) ?_
                refine ops_val (ex_sub rfl rfl (IntWalk.i64_in _ (by omega))) ?_
                refine nO148 ?_
                refine ops_test (ex_leq rfl rfl) (fun hp84 => ?_) (fun hp84 => ?_)
                · obtain ⟨hx, hW1⟩ : x = 0 ∧ W1 = s2.W.took s2.D (List.replicate kk 0 : Blk) := by
                    rcases hcase with ⟨_, h1, _⟩ | ⟨h1, _, h2⟩
                    · omega
                    · exact ⟨h1, h2⟩
                  refine ops_val (ex_move rfl) ?_
                  refine ops_yes rfl ?_
                  refine ops_val (ex_move rfl) ?_
                  refine nO148 ?_
                  refine ops_yes rfl ?_
                  refine ops_false (ex_neq rfl rfl) (by omega) ?_
                  refine ops_val (ex_pick_t rfl rfl) ?_
                  refine ops_val (ex_move rfl) ?_
                  refine nO148 ?_
                  refine ops_yes rfl ?_
                  refine ops_val (ex_move rfl) ?_
                  refine ops_yes rfl ?_
                  refine ops_false (ex_neq rfl rfl) (by omega) ?_
                  refine nO148 ?_
                  refine ops_yes rfl ?_
                  refine ops_val (ex_move rfl) ?_
                  refine ops_no rfl ?_
                  refine nO148 ?_
                  refine ops_no rfl ?_
                  refine ops_yes rfl ?_
                  refine ops_val (ex_pick_f rfl rfl) ?_
                  refine ops_val (ex_pick_f rfl rfl) ?_
                  refine ops_nil ?_
                  refine nR148 ?_
                  refine run_cond_false rfl ?_
                  refine run_skip ?_
                  refine run_seq ?_
                  refine run_region ?_
                  refine ops_val (ex_move rfl) ?_
                  refine ops_true (ex_eql rfl rfl) (by omega) ?_
                  refine ops_nil ?_
                  refine nR148 ?_
                  refine run_cond_true rfl ?_
                  refine run_seq ?_
                  refine run_region ?_
                  refine ops_val (ex_move rfl) ?_
                  refine ops_val (ex_move rfl) ?_
                  refine ops_val (ex_add rfl rfl (IntWalk.i64_in _ (by omega))) ?_
                  refine ops_val (ex_quo rfl rfl (by omega) (w63 kk (by omega))) ?_
                  refine nO148 ?_
                  refine ops_val (ex_add rfl rfl ((IntWalk.i64_in _ (by omega)).trans (show ((((kk + 63) / 64 : Nat) : Int) + 2) = ((wgt kk : Nat) : Int) by unfold wgt; omega))) ?_
                  refine ops_buildSlice Try.underlying22 ty3 H8 (cs := [.int .i64 (wgt kk : Int)]) rfl (by decide) rfl ?_
                  intro w9 g104 H9 hg104
                  refine ops_append Try.underlying22 ty3 (by decide) H9 8 (g := gd) (n := cm.length) (cap := cd) (xs := i64n cm) (sp := sq) rfl rfl (by rw [i64n_len, Nat.mul_one]) (by rw [Nat.mul_one]; exact hco.room) hco.cap hco.nil rfl (H9.rd (i := 10) (o := some g104) (xs := [.int .i64 (wgt kk : Int)]) (sp := []) rfl rfl (by decide)) rfl (by omega) (by omega) (by decide) ?_
                  intro w10 g105 c105 s105 H10 hc105 hm105 hg105
                  rw [Nat.mul_one] at hc105
                  refine ops_val (ex_assign rfl) ?_
                  refine ops_nil ?_
                  refine nR148 ?_
                  refine run_seq ?_
                  refine run_mixZ 11 [(true, 0), (true, 1), (true, 2), (true, 3), (true, 4), (true, 5), (false, 6), (false, 7), (false, 8), (true, 9), (true, 10), (false, 11)] H10 [6] mixed (by decide) (by kernel_rfl) ?_
                  rintro w11 hw11
                  have H11 := Hp.drew H10; rw [← hw11] at H11
                  refine mixz_p rfl ?_
                  refine mix1_val (fun wz hz => ex_move rfl) ?_
                  refine mixz_p rfl ?_
                  refine mix1_val (fun wz hz => ex_move rfl) ?_
                  refine mixz_p rfl ?_
                  refine mix1_val (fun wz hz => ex_nilCheck rfl) ?_
                  refine mixz_p rfl ?_
                  refine mix1_val (fun wz hz => ex_fieldAddr fl31_2 rfl) ?_
                  refine nZ148 ?_
                  refine mixz_p rfl ?_
                  refine mix1_val (fun wz hz => ex_load ty29 rfl (hz.cell (i := 0) rfl rfl)) ?_
                  refine mixz_p rfl ?_
                  refine mix1_val (fun wz hz => ex_move rfl) ?_
                  refine mixz_o rfl ?_
                  refine ops_make Try.underlying34 ty5 H11 rfl rfl (n := kk) (c := kk) (Nat.le_refl _) (by omega) (by omega) ?_
                  intro w12 g112 H12 hg112
                  refine ops_nil ?_
                  refine ⟨fun hne => H12.pick [6] (by decide), ?_⟩
                  refine nZ148 ?_
                  refine mixz_o rfl ?_
                  refine ops_buildSlice Try.underlying29 ty34 H12 (cs := [.slice (hd (some g112)) kk kk]) rfl (by decide) rfl ?_
                  intro w13 g113 H13 hg113
                  refine ops_nil ?_
                  refine ⟨fun hne => H13.pick [6] (by decide), ?_⟩
                  refine nZ148 ?_
                  refine mixz_o rfl ?_
                  have hys1 := hl.ok.all.1
                  refine ops_append Try.underlying29 ty34 (by decide) H13 7 (g := s2.k.ga) (n := s2.K.all.length) (cap := s2.k.ca) (xs := s2.k.ys) (sp := s2.k.sa) rfl rfl (by rw [hys1, Nat.mul_one]) (by rw [Nat.mul_one]; exact hl.ok.room) hl.ok.cap hl.ok.nil rfl (H13.rd (i := 12) (o := some g113) (xs := [.slice (hd (some g112)) kk kk]) (sp := []) rfl rfl (by decide)) rfl (by omega) (by omega) (by decide) ?_
                  intro w14 g114 c114 s114 H14 hc114 hm114 hg114
                  rw [Nat.mul_one] at hc114
                  refine ops_nil ?_
                  refine ⟨fun hne => H14.pick [6] (by decide), ?_⟩
                  refine nZ148 ?_
                  refine mixz_p rfl ?_
                  refine mix1_val (fun wz hz => ex_nilCheck rfl) ?_
                  refine mixz_p rfl ?_
                  refine mix1_val (fun wz hz => ex_fieldAddr fl31_2 rfl) ?_
                  refine mixz_o rfl ?_
                  refine ops_store1 ty29 H14 6 rfl rfl rfl rfl (by first | decide | simp) rfl ?_
                  intro w15 H15
                  refine ops_nil ?_
                  refine ⟨fun hne => absurd rfl hne, ?_⟩
                  refine nZ148 ?_
                  refine mixz_nil ?_
                  refine nR148 ?_
                  refine run_region ?_
                  refine ops_val (ex_move rfl) ?_
                  refine ops_val (ex_nilCheck rfl) ?_
                  refine ops_val (ex_fieldAddr fl31_3 rfl) ?_
                  refine ops_val (ex_load ty3 rfl (H15.cell (i := 6) rfl rfl)) ?_
                  refine nO148 ?_
                  refine ops_val (ex_add rfl rfl ((show IntKind.i64.wrap ((s2.K.all.length : Int) + 1) = ((s2.K.all.length + 1 : Nat) : Int) from (IntWalk.i64_in _ (by omega)).trans (by omega)))) ?_
                  refine ops_val (ex_nilCheck rfl) ?_
                  refine ops_val (ex_fieldAddr fl31_3 rfl) ?_
                  refine ops_store1 ty3 H15 6 rfl rfl rfl rfl (by first | decide | simp) rfl ?_
                  intro w16 H16
                  refine ops_nil ?_
                  refine nR148 ?_
                  refine run_nil (blk_normal ?_)
                  refine run_region ?_
                  refine ops_val (ex_move rfl) ?_
                  refine ops_val (ex_add rfl rfl (IntWalk.i64_in _ (by omega))) ?_
                  refine ops_val (ex_assign rfl) ?_
                  refine ops_nil ?_
                  refine nR148 ?_
                  refine run_nil (rnd_normal ?_)
                  have e1 : (s2.K.all ++ [(List.replicate kk 0 : Blk)]).length = s2.K.all.length + 1 := by rw [List.length_append]; rfl
                  have hP : i64n cm ++ [Value.int .i64 (wgt kk : Int)] = i64n (cm ++ [wgt kk]) := by simp [i64n]
                  have hco2 : CostOk (⟨mv s2.m q1, D1, W1, s2.k.push g114 c114 s114 (some g112) (List.replicate kk 0 : Blk).length kk, s2.K.push (List.replicate kk 0 : Blk)⟩ : Sx) g105 c105 (cm ++ [wgt kk]) s105 := by
                    rw [hW1]
                    have h1 := cost_push (m2 := mv s2.m q1) (D2 := D1) (k2 := s2.k.push g114 c114 s114 (some g112) (List.replicate kk 0 : Blk).length kk) (b := (List.replicate kk 0 : Blk)) (g := g105) (c := c105) (s := s105) hco (by omega) hm105 (by rw [hZl, ← hP]; exact hc105) hg105
                    rw [hZl] at h1 ⊢
                    exact h1
                  rw [hP] at H16
                  have hl3 : Live w16 (⟨mv s2.m q1, D1, W1, s2.k.push g114 c114 s114 (some g112) (List.replicate kk 0 : Blk).length kk, s2.K.push (List.replicate kk 0 : Blk)⟩ : Sx) [((g105, 3, i64n (cm ++ [wgt kk]) ++ s105) : Ent)] N (61 * q + (i + 1)) := hl.push H16 (fun x hx => bl_pick (is := [0, 1, 2, 3, 4, 5, 6, 7, 8]) H16 x (by simpa [bl, Mk.push] using hx)) (by rw [u8s_zero, List.length_replicate]; exact H16.rd (i := 11) (o := some g112) (xs := List.replicate kk (.int .u8 0)) (sp := []) (by rw [List.append_nil]; rfl) (by rw [List.length_replicate, Nat.mul_one]) (by decide)) (fun p hp hx => by simp only [hd, Option.map_some, Option.some.injEq] at hp; subst hp; exact row_not H16 (i := 11) rfl (is := [0, 1, 2, 3, 4, 5, 6, 7, 8]) (by decide) (by simpa [bl, Mk.push] using hx)) hm114 (by rw [hZl]; exact hc114) hg114 (by rw [hZl]; omega) (by show s2.K.all.length < 61 * q + (i + 1); omega) (by omega) (by omega)
                  have hHB : Hp w0 w16 [] ((⟨mv s2.m q1, D1, W1, s2.k.push g114 c114 s114 (some g112) (List.replicate kk 0 : Blk).length kk, s2.K.push (List.replicate kk 0 : Blk)⟩ : Sx).rows ++ [((g105, 3, i64n (cm ++ [wgt kk]) ++ s105) : Ent)]) := by
                    unfold Sx.rows bRows kRows bcl Bk.push Mk.push
                    simp only [e1, hZl]
                    exact (HB.all H16).pick [0, 1, 2, 3, 4, 5, 6, 7, 8] (by decide)
                  have hag2 : Agr W1 (s2.K.push (List.replicate kk 0 : Blk)) := by rw [hW1]; exact hag.push s2.D (List.replicate kk 0 : Blk)
                  have el : (cm ++ [wgt kk]).length = cm.length + 1 := by rw [List.length_append]; rfl
                  rw [← el]
                  exact ⟨60 - (i + 1), by omega, i + 1, _, (⟨mv s2.m q1, D1, W1, s2.k.push g114 c114 s114 (some g112) (List.replicate kk 0 : Blk).length kk, s2.K.push (List.replicate kk 0 : Blk)⟩ : Sx), g105, c105, cm ++ [wgt kk], s105, rfl, (fs (fs (fs (fn (fn (fn (fn (fs (fs (fs (fs (fn (fn (fn (fn (fn (fn (fn (fn (fn (fn (fn (fn (fn (fn (fn (fn (fn (fn (fn (fn (fn (fn (fn (fn (fn (fn (fn (fn (fn (fn (fn (fn (fn (fn (fn (fn (fn (fn (fn (fn (fn (fn (fn (fn (fn (fn (fn (fn (fn (fn (fn (fn (fn (fn (fn (fn (fn (fn (fn (fn (fn (fn (fn (fn (fn (fn (fn (fn (fn (fn (fn (fn (fn (fn (fn (fn (fn (fn (fn (fn (fn (fn (fn (fn (fn (fn (fn (fn (fn (fn (fn (fn (fn (fn (fn (fn (fn (fn (fn (fn (fn (fn (fn (fn (fn (fn (fn (fn (fn (fn (fn (fn (fn (fn (fn (fn (fn (fn (fn (fn (fn (fn (fn (fn (fn (fn (fn (fn (fn (fn (fn (fn (fn (fn (fn (fn (fn f0)))))))))))))))))))))))))))))))))))))))))))))))))))))))))))))))))))))))))))))))))))))))))))))))))))))))))))))))))))))))))))))))))))))))))))))))))))), by omega, by omega, rfl, hl3, hag2, hco2, hHB⟩
                · obtain ⟨hx, hW1⟩ : x = 3 ∧ W1 = s2.W := by
                    rcases hcase with ⟨h1, _, h2⟩ | ⟨_, h1, _⟩
                    · exact ⟨h1, h2⟩
                    · omega
                  refine ops_val (ex_move rfl) ?_
                  refine ops_no rfl ?_
                  refine nO148 ?_
                  refine ops_no rfl ?_
                  refine ops_val (ex_pick_f rfl rfl) ?_
                  refine ops_val (ex_move rfl) ?_
                  refine nO148 ?_
                  refine ops_yes rfl ?_
                  refine ops_val (ex_move rfl) ?_
                  refine ops_yes rfl ?_
                  refine ops_true (ex_neq rfl rfl) (by omega) ?_
                  refine nO148 ?_
                  refine ops_yes rfl ?_
                  refine ops_val (ex_move rfl) ?_
                  refine ops_yes rfl ?_
                  refine ops_val (ex_move rfl) ?_
                  refine nO148 ?_
                  refine ops_yes rfl ?_
                  refine ops_false (ex_neq rfl rfl) (by omega) ?_
                  refine ops_yes rfl ?_
                  refine ops_val (ex_pick_t rfl rfl) ?_
                  refine ops_val (ex_pick_f rfl rfl) ?_
                  refine ops_nil ?_
                  refine nR148 ?_
                  refine run_cond_false rfl ?_
                  refine run_skip ?_
                  refine run_seq ?_
                  refine run_region ?_
                  refine ops_val (ex_move rfl) ?_
                  refine ops_false (ex_eql rfl rfl) (by omega) ?_
                  refine ops_nil ?_
                  refine nR148 ?_
                  refine run_cond_false rfl ?_
                  refine run_skip ?_
                  refine run_nil (blk_normal ?_)
                  refine run_region ?_
                  refine ops_val (ex_move rfl) ?_
                  refine ops_val (ex_add rfl rfl (IntWalk.i64_in _ (by omega))) ?_
                  refine ops_val (ex_assign rfl) ?_
                  refine ops_nil ?_
                  refine nR148 ?_
                  refine run_nil (rnd_normal ?_)
                  have hl3 : Live w8 (⟨mv s2.m q1, D1, W1, s2.k, s2.K⟩ : Sx) [((gd, 3, i64n cm ++ sq) : Ent)] N (61 * q + (i + 1)) := hl.lessF
                  have hHB : Hp w0 w8 [] ((⟨mv s2.m q1, D1, W1, s2.k, s2.K⟩ : Sx).rows ++ [((gd, 3, i64n cm ++ sq) : Ent)]) := Hp.less (R := [((some g78, 5, List.replicate kk (.int .u8 0)) : Ent)]) (by rw [List.append_assoc]; exact HB.all H8)
                  exact ⟨60 - (i + 1), by omega, i + 1, _, (⟨mv s2.m q1, D1, W1, s2.k, s2.K⟩ : Sx), gd, cd, cm, sq, rfl, (fs (fs (fs (fn (fn (fn (fn (fs (fs (fs (fs (fn (fn (fn (fn (fn (fn (fn (fn (fn (fn (fn (fn (fn (fn (fn (fn (fn (fn (fn (fn (fn (fn (fn (fn (fn (fn (fn (fn (fn (fn (fn (fn (fn (fn (fn (fn (fn (fn (fn (fn (fn (fn (fn (fn (fn (fn (fn (fn (fn (fn (fn (fn (fn (fn (fn (fn (fn (fn (fn (fn (fn (fn (fn (fn (fn (fn (fn (fn (fn (fn (fn (fn (fn (fn (fn (fn (fn (fn (fn (fn (fn (fn (fn (fn (fn (fn (fn (fn (fn (fn (fn (fn (fn (fn (fn (fn (fn (fn (fn (fn (fn (fn (fn (fn (fn (fn (fn (fn (fn (fn (fn (fn (fn (fn (fn (fn (fn (fn (fn (fn (fn (fn (fn (fn (fn (fn (fn (fn (fn (fn (fn (fn (fn (fn (fn (fn (fn f0)))))))))))))))))))))))))))))))))))))))))))))))))))))))))))))))))))))))))))))))))))))))))))))))))))))))))))))))))))))))))))))))))))))))))))))))))))), by omega, by omega, rfl, hl3, (by rw [hW1]; exact hag), ⟨hco.len, by rw [hW1]; exact hco.sum, hco.cap, hco.room, hco.nil⟩, hHB⟩
          · skip
            refine ops_val (ex_pick_t rfl rfl) ?_
            refine ops_nil ?_
            refine nR148 ?_
            refine run_cond_false rfl ?_
            refine run_exit ?_
            refine rnd_exit ?_
            refine blk_exit ?_
            refine run_seq ?_
            refine run_seq ?_
            refine run_mixZ 14 [(true, 0), (false, 1), (true, 2), (true, 3), (true, 4), (true, 5), (true, 6), (true, 7), (true, 8), (true, 9), (true, 10), (true, 11), (false, 12), (true, 13), (false, 14)] H4 [6] mixed (by decide) (by kernel_rfl) ?_
            rintro w5 hw5
            have H5 := Hp.drew H4; rw [← hw5] at H5
            refine mixz_p rfl ?_
            refine mix1_val (fun wz hz => ex_move rfl) ?_
            refine mixz_o rfl ?_
            have hl2 := hl.to H5
            have HB2 := HB.all H5
            refine ops_call_val (ex_call gf12 rfl) (agree_any s2.m s2.D s2.W s2.k s2.K _ HB2.less.here hl2.ok.less hag) ?_
            intro w6 Hd
            have H6 := H5.callN Hd
            refine ops_nil ?_
            refine ⟨fun hne => H6.pick [6] (by decide), ?_⟩
            refine nZ148 ?_
            refine mixz_p rfl ?_
            refine mix1_val (fun wz hz => ex_not rfl) ?_
            refine mixz_p rfl ?_
            refine mix1_val (fun wz hz => ex_move rfl) ?_
            refine mixz_p rfl ?_
            refine mix1_yes rfl ?_
            refine mix1_val (fun wz hz => ex_move rfl) ?_
            refine mixz_p rfl ?_
            refine mix1_yes rfl ?_
            refine mix1_val (fun wz hz => ex_nilCheck rfl) ?_
            refine nZ148 ?_
            refine mixz_p rfl ?_
            refine mix1_yes rfl ?_
            refine mix1_val (fun wz hz => ex_fieldAddr fl31_1 rfl) ?_
            refine mixz_p rfl ?_
            refine mix1_yes rfl ?_
            refine mix1_val (fun wz hz => ex_load ty28 rfl (hz.cell (i := 0) rfl rfl)) ?_
            refine mixz_p rfl ?_
            refine mix1_yes rfl ?_
            refine mix1_val (fun wz hz => ex_move rfl) ?_
            refine mixz_p rfl ?_
            refine mix1_yes rfl ?_
            refine mix1_val (fun wz hz => ex_nilCheck rfl) ?_
            refine nZ148 ?_
            refine mixz_p rfl ?_
            refine mix1_yes rfl ?_
            refine mix1_val (fun wz hz => ex_fieldAddr fl31_3 rfl) ?_
            refine mixz_p rfl ?_
            refine mix1_yes rfl ?_
            refine mix1_val (fun wz hz => ex_load ty3 rfl (hz.cell (i := 0) rfl rfl)) ?_
            refine mixz_o rfl ?_
            refine ops_yes rfl ?_
            replace hl := hl.to H6
            have HB : Hp w0 w6 [] (s2.rows ++ [((gd, 3, i64n cm ++ sq) : Ent)]) := HB.all H6
            have hwt := hl.wait
            have htn := hl.turn
            refine ops_call (ex_call gf13 rfl) (cut_all (s2.K.all.length : Int) s2.m s2.D s2.W _ HB.less.less.here hl.ok.ok (by omega) (by omega) (by omega)) ?_
            rintro r w7 hcut
            obtain ⟨x3, D3, W3, hr, hres, hwp⟩ := cut_some hcut (gone := s2.W.recs.length) (by rw [hag.next]) (Nat.le_refl _)
            obtain ⟨hx0, hrc3, hfs3, htd3, hwt3, q3, hl, Hc⟩ := hl.sc (by omega) (lt_rest2 HB) (Nat.le_refl _) hres hwp (by omega)
            rw [hr, hx0]
            rw [List.drop_of_length_le (Nat.le_refl _)] at hrc3
            have HB : Hp w0 w7 [] ((⟨mv s2.m q3, D3, W3, s2.k, s2.K⟩ : Sx).rows ++ [((gd, 3, i64n cm ++ sq) : Ent)]) := HB.front2 Hc
            have H7 := H6.front2 Hc
            refine ops_nil ?_
            refine ⟨fun hne => H7.pick [6] (by decide), ?_⟩
            refine nZ148 ?_
            refine mixz_p rfl ?_
            refine mix1_yes rfl ?_
            refine mix1_false (fun wz hz => ex_neq rfl rfl) (by decide) ?_
            refine mixz_o rfl ?_
            refine ops_val (ex_pick_f rfl rfl) ?_
            refine ops_nil ?_
            refine ⟨fun hne => absurd rfl hne, ?_⟩
            refine nZ148 ?_
            refine mixz_nil ?_
            refine nR148 ?_
            refine run_cond_false rfl ?_
            refine run_skip ?_
            refine run_region ?_
            refine ops_val (ex_move rfl) ?_
            replace H7 := HB.here
            refine ops_val (ex_move rfl) ?_
            refine ops_val (ex_nilCheck rfl) ?_
            refine ops_val (ex_fieldAddr fl31_3 rfl) ?_
            refine nO148 ?_
            refine ops_val (ex_load ty3 rfl (H7.cell (i := 6) rfl rfl)) ?_
            refine ops_val (ex_nilCheck rfl) ?_
            refine ops_val (ex_fieldAddr fl31_5 rfl) ?_
            refine ops_store1 ty3 H7 6 rfl rfl rfl rfl (by first | decide | simp) rfl ?_
            intro w8 H8
            refine ops_nil ?_
            refine nR148 ?_
            refine run_nil (blk_normal ?_)
            refine run_region ?_
            refine ops_val (ex_move rfl) ?_
            refine ops_val (ex_add rfl rfl (IntWalk.i64_in _ (by omega))) ?_
            refine ops_val (ex_assign rfl) ?_
            refine ops_nil ?_
            refine nR148 ?_
            refine run_nil (rnd_normal ?_)
            have hl3 : Live w8 (⟨mv s2.m q3, D3, W3, s2.k, { s2.K with first := s2.K.all.length }⟩ : Sx) [((gd, 3, i64n cm ++ sq) : Ent)] N (61 * (q + 1)) := ((hl.to H8).re { s2.K with first := s2.K.all.length } rfl).up_ (by omega)
            have hHB : Hp w0 w8 [] ((⟨mv s2.m q3, D3, W3, s2.k, { s2.K with first := s2.K.all.length }⟩ : Sx).rows ++ [((gd, 3, i64n cm ++ sq) : Ent)]) := HB.all H8
            exact ⟨5 - (q + 1), by omega, q + 1, _, (⟨mv s2.m q3, D3, W3, s2.k, { s2.K with first := s2.K.all.length }⟩ : Sx), gd, cd, cm, sq, rfl, (fs (fs (fs (fn (fn (fn (fn (fs (fs (fs (fn (fn (fn (fn (fn (fn (fn (fn (fn (fn (fn (fn (fn (fn (fn (fn (fn (fn (fn (fn (fn (fn (fn (fn (fn (fn (fn (fn (fn (fn (fn (fn (fn (fn (fn (fn (fn (fn (fn (fn (fn (fn (fn (fn (fn (fn (fn (fn (fn (fn (fn (fn (fn (fn (fn (fn (fn (fn (fn (fn (fn (fn (fn (fn (fn (fn (fn (fn (fn (fn (fn (fn (fn (fn (fn (fn (fn (fn (fn (fn (fn (fn (fn (fn (fn (fn (fn (fn (fn (fn (fn (fn (fn (fn (fn (fn (fn (fn (fn (fn (fn (fn (fn (fn (fn (fn (fn (fn (fn (fn (fn (fn (fn (fn (fn (fn (fn (fn (fn (fn (fn (fn (fn (fn (fn (fn (fn (fn (fn (fn (fn (fn (fn (fn (fn (fn (fn (fn f0)))))))))))))))))))))))))))))))))))))))))))))))))))))))))))))))))))))))))))))))))))))))))))))))))))))))))))))))))))))))))))))))))))))))))))))))))))), by omega, by omega, rfl, hl3, ⟨by show s2.K.all.length = W3.first; omega, by show s2.K.all.length = W3.first + W3.recs.length; rw [hrc3, hfs3]; simp only [List.length_nil]; omega, by show W3.recs = s2.K.all.drop W3.first; rw [hrc3, List.drop_of_length_le (by omega)]⟩, ⟨hco.len, by show cm.drop s2.K.all.length = W3.recs.map _; rw [hrc3, List.drop_of_length_le (by omega)]; rfl, hco.cap, hco.room, hco.nil⟩, hHB⟩
        · skip
          refine ops_val (ex_move rfl) ?_
          refine nO148 ?_
          refine ops_no rfl ?_
          refine ops_no rfl ?_
          refine ops_val (ex_pick_f rfl rfl) ?_
          refine ops_nil ?_
          refine nR148 ?_
          refine run_cond_false rfl ?_
          refine run_exit ?_
          refine rnd_exit ?_
          refine blk_exit ?_
          refine run_seq ?_
          refine run_seq ?_
          refine run_mixZ 14 [(true, 0), (false, 1), (true, 2), (true, 3), (true, 4), (true, 5), (true, 6), (true, 7), (true, 8), (true, 9), (true, 10), (true, 11), (false, 12), (true, 13), (false, 14)] H4 [6] mixed (by decide) (by kernel_rfl) ?_
          rintro w5 hw5
          have H5 := Hp.drew H4; rw [← hw5] at H5
          refine mixz_p rfl ?_
          refine mix1_val (fun wz hz => ex_move rfl) ?_
          refine mixz_o rfl ?_
          have hl2 := hl.to H5
          have HB2 := HB.all H5
          refine ops_call_val (ex_call gf12 rfl) (agree_any s2.m s2.D s2.W s2.k s2.K _ HB2.less.here hl2.ok.less hag) ?_
          intro w6 Hd
          have H6 := H5.callN Hd
          refine ops_nil ?_
          refine ⟨fun hne => H6.pick [6] (by decide), ?_⟩
          refine nZ148 ?_
          refine mixz_p rfl ?_
          refine mix1_val (fun wz hz => ex_not rfl) ?_
          refine mixz_p rfl ?_
          refine mix1_val (fun wz hz => ex_move rfl) ?_
          refine mixz_p rfl ?_
          refine mix1_yes rfl ?_
          refine mix1_val (fun wz hz => ex_move rfl) ?_
          refine mixz_p rfl ?_
          refine mix1_yes rfl ?_
          refine mix1_val (fun wz hz => ex_nilCheck rfl) ?_
          refine nZ148 ?_
          refine mixz_p rfl ?_
          refine mix1_yes rfl ?_
          refine mix1_val (fun wz hz => ex_fieldAddr fl31_1 rfl) ?_
          refine mixz_p rfl ?_
          refine mix1_yes rfl ?_
          refine mix1_val (fun wz hz => ex_load ty28 rfl (hz.cell (i := 0) rfl rfl)) ?_
          refine mixz_p rfl ?_
          refine mix1_yes rfl ?_
          refine mix1_val (fun wz hz => ex_move rfl) ?_
          refine mixz_p rfl ?_
          refine mix1_yes rfl ?_
          refine mix1_val (fun wz hz => ex_nilCheck rfl) ?_
          refine nZ148 ?_
          refine mixz_p rfl ?_
          refine mix1_yes rfl ?_
          refine mix1_val (fun wz hz => ex_fieldAddr fl31_3 rfl) ?_
          refine mixz_p rfl ?_
          refine mix1_yes rfl ?_
          refine mix1_val (fun wz hz => ex_load ty3 rfl (hz.cell (i := 0) rfl rfl)) ?_
          refine mixz_o rfl ?_
          refine ops_yes rfl ?_
          replace hl := hl.to H6
          have HB : Hp w0 w6 [] (s2.rows ++ [((gd, 3, i64n cm ++ sq) : Ent)]) := HB.all H6
          have hwt := hl.wait
          have htn := hl.turn
          refine ops_call (ex_call gf13 rfl) (cut_all (s2.K.all.length : Int) s2.m s2.D s2.W _ HB.less.less.here hl.ok.ok (by omega) (by omega) (by omega)) ?_
          rintro r w7 hcut
          obtain ⟨x3, D3, W3, hr, hres, hwp⟩ := cut_some hcut (gone := s2.W.recs.length) (by rw [hag.next]) (Nat.le_refl _)
          obtain ⟨hx0, hrc3, hfs3, htd3, hwt3, q3, hl, Hc⟩ := hl.sc (by omega) (lt_rest2 HB) (Nat.le_refl _) hres hwp (by omega)
          rw [hr, hx0]
          rw [List.drop_of_length_le (Nat.le_refl _)] at hrc3
          have HB : Hp w0 w7 [] ((⟨mv s2.m q3, D3, W3, s2.k, s2.K⟩ : Sx).rows ++ [((gd, 3, i64n cm ++ sq) : Ent)]) := HB.front2 Hc
          have H7 := H6.front2 Hc
          refine ops_nil ?_
          refine ⟨fun hne => H7.pick [6] (by decide), ?_⟩
          refine nZ148 ?_
          refine mixz_p rfl ?_
          refine mix1_yes rfl ?_
          refine mix1_false (fun wz hz => ex_neq rfl rfl) (by decide) ?_
          refine mixz_o rfl ?_
          refine ops_val (ex_pick_f rfl rfl) ?_
          refine ops_nil ?_
          refine ⟨fun hne => absurd rfl hne, ?_⟩
          refine nZ148 ?_
          refine mixz_nil ?_
          refine nR148 ?_
          refine run_cond_false rfl ?_
          refine run_skip ?_
          refine run_region ?_
          refine ops_val (ex_move rfl) ?_
          replace H7 := HB.here
          refine ops_val (ex_move rfl) ?_
          refine ops_val (ex_nilCheck rfl) ?_
          refine ops_val (ex_fieldAddr fl31_3 rfl) ?_
          refine nO148 ?_
          refine ops_val (ex_load ty3 rfl (H7.cell (i := 6) rfl rfl)) ?_
          refine ops_val (ex_nilCheck rfl) ?_
          refine ops_val (ex_fieldAddr fl31_5 rfl) ?_
          refine ops_store1 ty3 H7 6 rfl rfl rfl rfl (by first | decide | simp) rfl ?_
          intro w8 H8
          refine ops_nil ?_
          refine nR148 ?_
          refine run_nil (blk_normal ?_)
          refine run_region ?_
          refine ops_val (ex_move rfl) ?_
          refine ops_val (ex_add rfl rfl (IntWalk.i64_in _ (by omega))) ?_
          refine ops_val (ex_assign rfl) ?_
          refine ops_nil ?_
          refine nR148 ?_
          refine run_nil (rnd_normal ?_)
          have hl3 : Live w8 (⟨mv s2.m q3, D3, W3, s2.k, { s2.K with first := s2.K.all.length }⟩ : Sx) [((gd, 3, i64n cm ++ sq) : Ent)] N (61 * (q + 1)) := ((hl.to H8).re { s2.K with first := s2.K.all.length } rfl).up_ (by omega)
          have hHB : Hp w0 w8 [] ((⟨mv s2.m q3, D3, W3, s2.k, { s2.K with first := s2.K.all.length }⟩ : Sx).rows ++ [((gd, 3, i64n cm ++ sq) : Ent)]) := HB.all H8
          exact ⟨5 - (q + 1), by omega, q + 1, _, (⟨mv s2.m q3, D3, W3, s2.k, { s2.K with first := s2.K.all.length }⟩ : Sx), gd, cd, cm, sq, rfl, (fs (fs (fs (fn (fn (fn (fn (fs (fs (fs (fn (fn (fn (fn (fn (fn (fn (fn (fn (fn (fn (fn (fn (fn (fn (fn (fn (fn (fn (fn (fn (fn (fn (fn (fn (fn (fn (fn (fn (fn (fn (fn (fn (fn (fn (fn (fn (fn (fn (fn (fn (fn (fn (fn (fn (fn (fn (fn (fn (fn (fn (fn (fn (fn (fn (fn (fn (fn (fn (fn (fn (fn (fn (fn (fn (fn (fn (fn (fn (fn (fn (fn (fn (fn (fn (fn (fn (fn (fn (fn (fn (fn (fn (fn (fn (fn (fn (fn (fn (fn (fn (fn (fn (fn (fn (fn (fn (fn (fn (fn (fn (fn (fn (fn (fn (fn (fn (fn (fn (fn (fn (fn (fn (fn (fn (fn (fn (fn (fn (fn (fn (fn (fn (fn (fn (fn (fn (fn (fn (fn (fn (fn (fn (fn (fn (fn (fn (fn f0)))))))))))))))))))))))))))))))))))))))))))))))))))))))))))))))))))))))))))))))))))))))))))))))))))))))))))))))))))))))))))))))))))))))))))))))))))), by omega, by omega, rfl, hl3, ⟨by show s2.K.all.length = W3.first; omega, by show s2.K.all.length = W3.first + W3.recs.length; rw [hrc3, hfs3]; simp only [List.length_nil]; omega, by show W3.recs = s2.K.all.drop W3.first; rw [hrc3, List.drop_of_length_le (by omega)]⟩, ⟨hco.len, by show cm.drop s2.K.all.length = W3.recs.map _; rw [hrc3, List.drop_of_length_le (by omega)]; rfl, hco.cap, hco.room, hco.nil⟩, hHB⟩
    · skip
      refine ops_nil ?_
      refine nR148 ?_
      refine run_cond_false rfl ?_
      refine run_exit ?_
      refine rnd_exit ?_
      refine blk_exit ?_
      refine run_seq ?_
      refine run_region ?_
      refine ops_val (ex_move rfl) ?_
      refine ops_call_val (ex_call gf12 rfl) (agree_any s.m s.D s.W s.k s.K _ HB.less.here hl.ok.less hag) ?_
      intro w4 Hd
      have H4 := H3.callN Hd
      refine ops_val (ex_assign rfl) ?_
      refine ops_nil ?_
      refine nR148 ?_
      refine run_ret ?_
      refine fin_ret1 rfl rfl ?_
      exact ⟨rfl, (HB.all H4).noRows⟩
end Go.Proofs.Ytgkciibfpenjpaa
