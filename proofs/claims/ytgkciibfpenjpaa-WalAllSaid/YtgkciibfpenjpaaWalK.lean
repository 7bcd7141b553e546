/- Walks of layer 2, printed by wip/gen/codec.py. -/
import Derived.Test.YtgkciibfpenjpaaNrm
import Derived.Test.YtgkciibfpenjpaaWalJ
namespace Go.Proofs.Ytgkciibfpenjpaa
open Go Go.RowKit
set_option linter.unusedVariables false
attribute [local irreducible] Still Ops Does Cd
/-- How a Sync or a Cut may end. -/
def ScRes (D : Dk) (W : Wl) (gone : Nat) (x : Int) (D' : Dk) (W' : Wl) : Prop :=
  ((W.dead || D.down) = true ∧ x = 40 ∧ D' = D ∧ W' = { W with dead := true }) ∨
  ((W.dead || D.down) = false ∧ ((x = 0 ∧ CsOk D W gone D' W') ∨ (x = 40 ∧ CsBad D W gone D' ∧ W' = { W with dead := true })))
set_option maxRecDepth 100000 in
set_option maxHeartbeats 4000000 in
theorem syncW_nil (w0 : World) :
    Does Try.prog 16 #[.pointer none] w0 (fun r w' => r = .int .i64 2 ∧ Hp w0 w' [] []) := by
  refine does_of Try.func16 Try.ntmps16 rfl ?_
  change Run _ _ _ _ [.pointer none, undef, undef, undef, undef, undef, undef, undef] _
  have H := Hp.refl w0
  refine run_seq ?_
  refine run_region ?_
  refine ops_box rfl rfl H ?_
  intro w1 g1 H1 hg1
  refine ops_val (ex_assign rfl) ?_
  refine ops_nil ?_
  change Run _ _ _ _ [_, _, _, _, _, _, _, _] _
  refine run_seq ?_
  refine run_seq ?_
  refine run_region ?_
  refine ops_val (ex_load ty28 rfl (H1.cell (i := 0) rfl rfl)) ?_
  refine ops_true (ex_eql_nil_ptr Try.underlying28 rfl) (rfl) ?_
  refine ops_nil ?_
  change Run _ _ _ _ [_, _, _, _, _, _, _, _] _
  refine run_cond_true rfl ?_
  refine run_seq ?_
  refine run_region ?_
  refine ops_val (ex_assign rfl) ?_
  refine ops_nil ?_
  change Run _ _ _ _ [_, _, _, _, _, _, _, _] _
  refine run_ret ?_
  refine fin_ret1 rfl rfl ?_
  exact ⟨rfl, H1.pick [] (by decide)⟩
set_option maxRecDepth 100000 in
set_option maxHeartbeats 4000000 in
theorem cutW_nil (n : Int) (w0 : World) :
    Does Try.prog 13 #[.pointer none, .int .i64 n] w0 (fun r w' => r = .int .i64 2 ∧ Hp w0 w' [] []) := by
  refine does_of Try.func13 Try.ntmps13 rfl ?_
  refine nR20 ?_
  have H := Hp.refl w0
  refine run_seq ?_
  refine run_region ?_
  refine ops_box rfl rfl H ?_
  intro w1 g1 H1 hg1
  refine ops_box rfl rfl H1 ?_
  intro w2 g2 H2 hg2
  refine ops_val (ex_assign rfl) ?_
  refine ops_nil ?_
  refine nR20 ?_
  refine run_seq ?_
  refine run_seq ?_
  refine run_region ?_
  refine ops_val (ex_load ty28 rfl (H2.cell (i := 0) rfl rfl)) ?_
  refine ops_true (ex_eql_nil_ptr Try.underlying28 rfl) (rfl) ?_
  refine ops_nil ?_
  refine nR20 ?_
  refine run_cond_true rfl ?_
  refine run_seq ?_
  refine run_region ?_
  refine ops_val (ex_assign rfl) ?_
  refine ops_nil ?_
  refine nR20 ?_
  refine run_ret ?_
  refine fin_ret1 rfl rfl ?_
  exact ⟨rfl, H2.pick [] (by decide)⟩
set_option maxRecDepth 100000 in
set_option maxHeartbeats 4000000 in
theorem sync_all (m : Mw) (D : Dk) (W : Wl) (w0 : World) (H0 : Hp w0 w0 (bl (wRows m D W)) (wRows m D W)) (h : WOk w0 m D W) (hwt : D.wait.length ≤ 1000000000) (hfl : W.first ≤ 2 ^ 50) (htl : W.turn ≤ 2 ^ 50) :
    Does Try.prog 16 #[.pointer (some ⟨m.gv, 0, none⟩)] w0 (fun r w' => ∃ x D' W', r = .int .i64 x ∧ ScRes D W 0 x D' W' ∧ WPost w0 w' (bl (wRows m D W)) m (D') (W')) := by
  refine does_of Try.func16 Try.ntmps16 rfl ?_
  change Run _ _ _ _ [.pointer (some ⟨m.gv, 0, none⟩), undef, undef, undef, undef, undef, undef, undef] _
  have H := H0
  obtain ⟨hD, hlst, hrc, hrs, hrn, hpl, hpc, hps, hpn, hmost, hlong, hsize, hfin, hplb, hfirst, hturn, hused, htold⟩ := id h
  have hkept := hD.most
  refine run_seq ?_
  refine run_region ?_
  refine ops_box rfl rfl H ?_
  intro w1 g6 H1 hgg6
  refine ops_val (ex_assign rfl) ?_
  refine ops_nil ?_
  change Run _ _ _ _ [_, _, _, _, _, _, _, _] _
  refine run_seq ?_
  refine run_seq ?_
  refine run_region ?_
  refine ops_val (ex_load ty28 rfl (H1.cell (i := 6) rfl rfl)) ?_
  refine ops_false (ex_eql_nil_ptr Try.underlying28 rfl) (by simp) ?_
  refine ops_nil ?_
  change Run _ _ _ _ [_, _, _, _, _, _, _, _] _
  refine run_cond_false rfl ?_
  refine run_skip ?_
  refine run_seq ?_
  refine run_region ?_
  refine ops_val (ex_load ty28 rfl (H1.cell (i := 6) rfl rfl)) ?_
  refine ops_val (ex_makeFunc rfl rfl) ?_
  have hwk : WOk w1 m D W := h.move H1 [0, 1, 2, 3, 4, 5] rfl
  have H6 : Hp w0 w1 _ (wRows m D W) := H1.pick [0, 1, 2, 3, 4, 5] (by decide)
  have hc6 := H1.cell (i := 6) (o := 0) rfl rfl
  have hn6 : g6 ∉ bl (wRows m D W) := row_not H1 (i := 6) rfl (is := [0, 1, 2, 3, 4, 5]) (by decide)
  have hg := guarded_p' m D W w1 H6.here hwk 48 [.pointer (some ⟨g6, 0, none⟩)] gf48 (CsOk D W 0) (CsBad D W 0)
    (fun w1 Hw1 hw1 => syncF_any m D W w1 Hw1.here hw1 g6 (cell_toW hc6 Hw1 hn6) hn6 hwt hfl htl)
  refine ops_call_ex (ex_call gf33 rfl) hg ?_
  rintro w2 x ⟨D', W', hcase, hpost⟩
  refine ops_val (ex_assign rfl) ?_
  refine ops_nil ?_
  change Run _ _ _ _ [_, _, _, _, _, _, _, _] _
  refine run_ret ?_
  refine fin_ret1 rfl rfl ?_
  exact ⟨x, D', W', rfl, hcase, WPost.of H6 [0, 1, 2, 3, 4, 5] rfl hpost⟩
set_option maxRecDepth 100000 in
set_option maxHeartbeats 4000000 in
theorem cut_all (n : Int) (m : Mw) (D : Dk) (W : Wl) (w0 : World) (H0 : Hp w0 w0 (bl (wRows m D W)) (wRows m D W)) (h : WOk w0 m D W) (hwt : D.wait.length ≤ 1000000000) (hfl : W.first ≤ 2 ^ 50) (htl : W.turn ≤ 2 ^ 50) :
    Does Try.prog 13 #[.pointer (some ⟨m.gv, 0, none⟩), .int .i64 n] w0 (fun r w' => ((n < (W.first : Int) ∨ ((W.first + W.recs.length : Nat) : Int) < n) ∧ r = .int .i64 1 ∧ WPost w0 w' (bl (wRows m D W)) m (D) (W)) ∨ (∃ gone : Nat, n = ((W.first + gone : Nat) : Int) ∧ gone ≤ W.recs.length ∧ ∃ x D' W', r = .int .i64 x ∧ ScRes D W gone x D' W' ∧ WPost w0 w' (bl (wRows m D W)) m (D') (W'))) := by
  refine does_of Try.func13 Try.ntmps13 rfl ?_
  refine nR20 ?_
  have H := H0
  obtain ⟨hD, hlst, hrc, hrs, hrn, hpl, hpc, hps, hpn, hmost, hlong, hsize, hfin, hplb, hfirst, hturn, hused, htold⟩ := id h
  have hkept := hD.most
  refine run_seq ?_
  refine run_region ?_
  refine ops_box rfl rfl H ?_
  intro w1 g6 H1 hgg6
  refine ops_box rfl rfl H1 ?_
  intro w2 g7 H2 hgg7
  refine ops_val (ex_assign rfl) ?_
  refine ops_nil ?_
  refine nR20 ?_
  refine run_seq ?_
  refine run_seq ?_
  refine run_region ?_
  refine ops_val (ex_load ty28 rfl (H2.cell (i := 6) rfl rfl)) ?_
  refine ops_false (ex_eql_nil_ptr Try.underlying28 rfl) (by simp) ?_
  refine ops_nil ?_
  refine nR20 ?_
  refine run_cond_false rfl ?_
  refine run_skip ?_
  refine run_seq ?_
  refine run_seq ?_
  refine run_mixZ 9 [(true, 0), (true, 1), (true, 2), (true, 3), (true, 4), (true, 5), (true, 6), (false, 7), (true, 8), (false, 9)] H2 [0, 1, 2, 3, 4, 5, 6, 7] mixed (by decide) (by kernel_rfl) ?_
  rintro w3 hw3
  have H3 := Hp.drew H2; rw [← hw3] at H3
  refine mixz_p rfl ?_
  refine mix1_val (fun wz hz => ex_load ty3 rfl (hz.cell (i := 7) rfl rfl)) ?_
  refine mixz_p rfl ?_
  refine mix1_val (fun wz hz => ex_load ty28 rfl (hz.cell (i := 6) rfl rfl)) ?_
  refine mixz_p rfl ?_
  refine mix1_call (fun wz hz => ex_call gf19 rfl) (fun wz hz => first_p m.gv (W.first : Int) wz (hz.cell (i := 3) rfl rfl)) ?_
  refine mixz_p rfl ?_
  refine mix1_test (fun wz hz => ex_lss rfl rfl) (fun hp10 => ?_) (fun hp10 => ?_)
  · skip
    refine mixz_p rfl ?_
    refine mix1_val (fun wz hz => ex_move rfl) ?_
    refine nZ20 ?_
    refine mixz_p rfl ?_
    refine mix1_no rfl ?_
    refine mixz_p rfl ?_
    refine mix1_no rfl ?_
    refine nZ20 ?_
    refine mixz_o rfl ?_
    refine ops_no rfl ?_
    refine ops_nil ?_
    refine ⟨fun hne => H3.pick [0, 1, 2, 3, 4, 5, 6, 7] (by decide), ?_⟩
    refine mixz_p rfl ?_
    refine mix1_no rfl ?_
    refine nZ20 ?_
    refine mixz_o rfl ?_
    refine ops_val (ex_pick_t rfl rfl) ?_
    refine ops_nil ?_
    refine ⟨fun hne => absurd rfl hne, ?_⟩
    refine nZ20 ?_
    refine mixz_nil ?_
    refine nR20 ?_
    refine run_cond_true rfl ?_
    refine run_seq ?_
    refine run_region ?_
    refine ops_val (ex_assign rfl) ?_
    refine ops_nil ?_
    refine nR20 ?_
    refine run_ret ?_
    refine fin_ret1 rfl rfl ?_
    exact .inl ⟨.inl hp10, rfl, app_old h H3 [0, 1, 2, 3, 4, 5] (by decide) rfl⟩
  · skip
    refine mixz_p rfl ?_
    refine mix1_val (fun wz hz => ex_move rfl) ?_
    refine nZ20 ?_
    refine mixz_p rfl ?_
    refine mix1_yes rfl ?_
    refine mix1_val (fun wz hz => ex_load ty3 rfl (hz.cell (i := 7) rfl rfl)) ?_
    refine mixz_p rfl ?_
    refine mix1_yes rfl ?_
    refine mix1_val (fun wz hz => ex_load ty28 rfl (hz.cell (i := 6) rfl rfl)) ?_
    refine mixz_o rfl ?_
    refine ops_yes rfl ?_
    refine ops_call_val (ex_call gf15 rfl) (next_any m.gv W.first W.recs.length m.cr (hd m.gr) _ (H3.cell (i := 3) rfl rfl) (H3.cell (i := 3) rfl rfl) (by omega)) ?_
    intro w4 Hc
    have H4 := (H3.call0 Hc).pick [0, 1, 2, 3, 4, 5, 6, 7] (by decide)
    refine ops_nil ?_
    refine ⟨fun hne => H4.pick [0, 1, 2, 3, 4, 5, 6, 7] (by decide), ?_⟩
    refine nZ20 ?_
    refine mixz_p rfl ?_
    refine mix1_yes rfl ?_
    refine mix1_test (fun wz hz => ex_gtr rfl rfl) (fun hp15 => ?_) (fun hp15 => ?_)
    · skip
      refine mixz_o rfl ?_
      refine ops_val (ex_pick_f rfl rfl) ?_
      refine ops_nil ?_
      refine ⟨fun hne => absurd rfl hne, ?_⟩
      refine nZ20 ?_
      refine mixz_nil ?_
      refine nR20 ?_
      refine run_cond_true rfl ?_
      refine run_seq ?_
      refine run_region ?_
      refine ops_val (ex_assign rfl) ?_
      refine ops_nil ?_
      refine nR20 ?_
      refine run_ret ?_
      refine fin_ret1 rfl rfl ?_
      exact .inl ⟨.inr hp15, rfl, app_old h H4 [0, 1, 2, 3, 4, 5] (by decide) rfl⟩
    · obtain ⟨gone, rfl⟩ : ∃ gone : Nat, n = ((W.first + gone : Nat) : Int) := ⟨(n - W.first).toNat, by omega⟩
      have hgone : gone ≤ W.recs.length := by omega
      refine mixz_o rfl ?_
      refine ops_val (ex_pick_f rfl rfl) ?_
      refine ops_nil ?_
      refine ⟨fun hne => absurd rfl hne, ?_⟩
      refine nZ20 ?_
      refine mixz_nil ?_
      refine nR20 ?_
      refine run_cond_false rfl ?_
      refine run_skip ?_
      refine run_seq ?_
      refine run_region ?_
      refine ops_val (ex_load ty28 rfl (H4.cell (i := 6) rfl rfl)) ?_
      refine ops_val (ex_makeFunc rfl rfl) ?_
      have hwk : WOk w4 m D W := h.move H4 [0, 1, 2, 3, 4, 5] rfl
      have H6 : Hp w0 w4 _ (wRows m D W) := H4.pick [0, 1, 2, 3, 4, 5] (by decide)
      have hc6 := H4.cell (i := 6) (o := 0) rfl rfl
      have hn6 : g6 ∉ bl (wRows m D W) := row_not H4 (i := 6) rfl (is := [0, 1, 2, 3, 4, 5]) (by decide)
      have hc7 := H4.cell (i := 7) (o := 0) rfl rfl
      have hn7 : g7 ∉ bl (wRows m D W) := row_not H4 (i := 7) rfl (is := [0, 1, 2, 3, 4, 5]) (by decide)
      have hg := guarded_p' m D W w4 H6.here hwk 42 [.pointer (some ⟨g6, 0, none⟩), .pointer (some ⟨g7, 0, none⟩)] gf42 (CsOk D W gone) (CsBad D W gone)
        (fun w1 Hw1 hw1 => cutF_any m D W w1 Hw1.here hw1 g6 (cell_toW hc6 Hw1 hn6) hn6 g7 gone hgone (cell_toW hc7 Hw1 hn7) hn7 hwt hfl htl)
      refine ops_call_ex (ex_call gf33 rfl) hg ?_
      rintro w5 x ⟨D', W', hcase, hpost⟩
      refine ops_val (ex_assign rfl) ?_
      refine ops_nil ?_
      refine nR20 ?_
      refine run_ret ?_
      refine fin_ret1 rfl rfl ?_
      exact .inr ⟨gone, rfl, hgone, x, D', W', rfl, hcase, WPost.of H6 [0, 1, 2, 3, 4, 5] rfl hpost⟩
end Go.Proofs.Ytgkciibfpenjpaa
