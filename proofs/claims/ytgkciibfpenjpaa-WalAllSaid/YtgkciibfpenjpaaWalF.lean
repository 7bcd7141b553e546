/- Walks of layer 2, printed by wip/gen/codec.py. -/
import Derived.Test.YtgkciibfpenjpaaNrm
import Derived.Test.YtgkciibfpenjpaaWalE
namespace Go.Proofs.Ytgkciibfpenjpaa
open Go Go.RowKit
set_option linter.unusedVariables false
attribute [local irreducible] Still Ops Does Cd
theorem half (n : Nat) (h : n ≤ 16384) : IntKind.i64.wrap (((n : Nat) : Int).tdiv 2) = ((n / 2 : Nat) : Int) := by
  rw [show (((n : Nat) : Int)).tdiv 2 = ((n / 2 : Nat) : Int) from rfl]
  exact IntWalk.i64_in _ (by omega)
/-- How an Append may end. -/
def AppRes (D : Dk) (W : Wl) (b : Blk) (x : Int) (D' : Dk) (W' : Wl) : Prop :=
  (16384 < b.length ∧ x = 22 ∧ D' = D ∧ W' = W) ∨
  (b.length ≤ 16384 ∧ (W.dead || D.down) = true ∧ x = 40 ∧ D' = D ∧ W' = { W with dead := true }) ∨
  (b.length ≤ 16384 ∧ (W.dead || D.down) = false ∧ D.kept.length / 2 < used W.recs + wgt b.length + 16 ∧ x = 3 ∧ D' = D ∧ W' = W) ∨
  (b.length ≤ 16384 ∧ (W.dead || D.down) = false ∧ used W.recs + wgt b.length + 16 ≤ D.kept.length / 2 ∧
    ((okN (D.kept.length - 2) W.fin (frm b) D (nbk b.length) ∧ x = 0 ∧ D' = putsN (D.kept.length - 2) W.fin (frm b) D (nbk b.length) ∧ W' = W.took D b) ∨
     (x = 40 ∧ ∃ k, k < nbk b.length ∧ okN (D.kept.length - 2) W.fin (frm b) D k ∧ ((putsN (D.kept.length - 2) W.fin (frm b) D k).write ((2 + (W.fin + k) % (D.kept.length - 2) : Nat) : Int) (chk (frm b) k)).2 ≠ 0 ∧ D' = putsN (D.kept.length - 2) W.fin (frm b) D (k + 1) ∧ W' = { W with dead := true })))
theorem live_eq {W : Wl} {D : Dk} (h : (W.dead || D.down) = false) : ({ W with dead := W.dead || D.down } : Wl) = W := by
  rw [h]; have hx := (Bool.or_eq_false_iff.1 h).1; cases W; simp at hx; subst hx; rfl
theorem app_old {w0 w : World} {m : Mw} {D : Dk} {W : Wl} {es : List Ent} (h : WOk w0 m D W) (H : Hp w0 w (bl (wRows m D W)) es) (is : List Nat) (hnd : is.Nodup) (e : wRows m D W = is.map fun i => es.getD i (none, 0, [])) : WPost w0 w (bl (wRows m D W)) m D W := WPost.here h H rfl is hnd e rfl id
theorem app_dead {w0 w : World} {m : Mw} {D : Dk} {W : Wl} {es : List Ent} (h : WOk w0 m D W) (H : Hp w0 w (bl (wRows m D W)) es) (is : List Nat) (hnd : is.Nodup) (e : wRows m D { W with dead := true } = is.map fun i => es.getD i (none, 0, [])) : WPost w0 w (bl (wRows m D W)) m D { W with dead := true } := WPost.here h H rfl is hnd e rfl (fun h => { h with })
set_option maxRecDepth 100000 in
set_option maxHeartbeats 4000000 in
theorem append_nil (v : Value) (w0 : World) (hv : v.cells = [v].toArray) :
    Does Try.prog 11 #[.pointer none, v] w0 (fun r w' => r = .int .i64 2 ∧ Hp w0 w' [] []) := by
  refine does_of Try.func11 Try.ntmps11 rfl ?_
  refine nR31 ?_
  have H := Hp.refl w0
  refine run_seq ?_
  refine run_region ?_
  refine ops_box rfl rfl H ?_
  intro w1 g1 H1 hg1
  refine ops_box rfl hv H1 ?_
  intro w2 gq H2 hgq
  refine ops_val (ex_assign rfl) ?_
  refine ops_nil ?_
  refine nR31 ?_
  refine run_seq ?_
  refine run_seq ?_
  refine run_region ?_
  refine ops_val (ex_load ty28 rfl (H2.cell (i := 0) rfl rfl)) ?_
  refine ops_true (ex_eql_nil_ptr Try.underlying28 rfl) (rfl) ?_
  refine ops_nil ?_
  refine nR31 ?_
  refine run_cond_true rfl ?_
  refine run_seq ?_
  refine run_region ?_
  refine ops_val (ex_assign rfl) ?_
  refine ops_nil ?_
  refine nR31 ?_
  refine run_ret ?_
  refine fin_ret1 rfl rfl ?_
  exact ⟨rfl, H2.pick [] (by decide)⟩
theorem guarded_p' (m : Mw) (D : Dk) (W : Wl) (w0 : World) (H0 : Hp w0 w0 (bl (wRows m D W)) (wRows m D W)) (h : WOk w0 m D W) (fdo : FuncId) (lb : List Value) (hgo : goFn Try.prog fdo = true) (Res : Dk → Wl → Prop) (Fail : Dk → Prop) (hdo : ∀ w1, Hp w0 w1 (bl (wRows m D W)) (wRows m D W) → WOk w1 m D W → DoesP Try.prog fdo lb.toArray w1 (fun _ w2 => ∃ D' W', Res D' W' ∧ WPost w1 w2 (bl (wRows m D W)) m D' W') (fun ch w2 => ch = fallC ∧ ∃ D', Fail D' ∧ WPost w1 w2 (bl (wRows m D W)) m D' W)) :
    Does Try.prog 33 #[.pointer (some ⟨m.gv, 0, none⟩), .func (.func fdo) #[] lb.toArray] w0 (fun r w' => ∃ (x : Int) (D' : Dk) (W' : Wl), r = .int .i64 x ∧ (((W.dead || D.down) = true ∧ x = 40 ∧ D' = D ∧ W' = { W with dead := true }) ∨ ((W.dead || D.down) = false ∧ ((x = 0 ∧ Res D' W') ∨ (x = 40 ∧ Fail D' ∧ W' = { W with dead := true })))) ∧ WPost w0 w' (bl (wRows m D W)) m (D') (W')) := by
  refine (Rn.guarded_p m D W w0 H0 h fdo lb hgo Res Fail hdo).d (fun _ _ h => h) |>.mono ?_
  rintro r w' (⟨h1, h2, h3⟩ | ⟨h1, ⟨h2, D', W', h3, h4⟩ | ⟨h2, D', h3, h4⟩⟩)
  · exact ⟨40, D, _, h2, .inl ⟨h1, rfl, rfl, rfl⟩, h3⟩
  · exact ⟨0, D', W', h2, .inr ⟨h1, .inl ⟨rfl, h3⟩⟩, h4⟩
  · exact ⟨40, D', _, h2, .inr ⟨h1, .inr ⟨rfl, h3, rfl⟩⟩, h4⟩
theorem ops_call_ex {P : Program} {ds : List Deferred} {Q : Post} {K : List Value → World → Prop} {all os : List Oper} {l : List Value} {w : World} {op : Op} {ty : TypeId} {pos : String} {af : Array Edge} {d : Tmp} {f : FuncId} {args : Array Value} {X : Int → World → Dk → Wl → Prop} {Y : Int → World → Dk → Wl → Prop}
    (hx : Ex P l op ty w (.enter f args) w) (hc : Does P f args w fun r w' => ∃ (x : Int) (D' : Dk) (W' : Wl), r = .int .i64 x ∧ X x w' D' W' ∧ Y x w' D' W')
    (h : ∀ w' x, (∃ D' W', X x w' D' W' ∧ Y x w' D' W') → Ops P ds all K Q os (l.set d (.int .i64 x)) w') : Ops P ds all K Q (⟨some d, op, ty, pos, af, none⟩ :: os) l w :=
  ops_call hx hc fun r w' ⟨x, D', W', h1, h2, h3⟩ => by rw [h1]; exact h w' x ⟨D', W', h2, h3⟩
set_option maxRecDepth 100000 in
set_option maxHeartbeats 4000000 in
theorem append_any (m : Mw) (D : Dk) (W : Wl) (w0 : World) (H0 : Hp w0 w0 (bl (wRows m D W)) (wRows m D W)) (h : WOk w0 m D W) (A : Option Addr) (b : Blk) (c : Nat) (hr : Rd w0 A b.length 1 (u8s b)) (ha : 0 < b.length → ∀ p, A = some p → p.block ∉ bl (wRows m D W)) (hbl : b.length ≤ 2 ^ 60) (hwt : D.wait.length ≤ 1000000000) :
    Does Try.prog 11 #[.pointer (some ⟨m.gv, 0, none⟩), .slice A b.length c] w0 (fun r w' => ∃ x D' W', r = .int .i64 x ∧ AppRes D W b x D' W' ∧ WPost w0 w' (bl (wRows m D W)) m (D') (W')) := by
  refine does_of Try.func11 Try.ntmps11 rfl ?_
  refine nR31 ?_
  have H := H0
  have hmost := h.d.most
  have hsz := h.size
  have hus := h.used
  refine run_seq ?_
  refine run_region ?_
  refine ops_box rfl rfl H ?_
  intro w1 g6 H1 hg6
  refine ops_box rfl rfl H1 ?_
  intro w2 g7 H2 hg7
  refine ops_val (ex_assign rfl) ?_
  refine ops_nil ?_
  refine nR31 ?_
  refine run_seq ?_
  refine run_seq ?_
  refine run_region ?_
  refine ops_val (ex_load ty28 rfl (H2.cell (i := 6) rfl rfl)) ?_
  refine ops_false (ex_eql_nil_ptr Try.underlying28 rfl) (by simp) ?_
  refine ops_nil ?_
  refine nR31 ?_
  refine run_cond_false rfl ?_
  refine run_skip ?_
  refine run_seq ?_
  refine run_seq ?_
  refine run_region ?_
  refine ops_val (ex_load ty34 rfl (H2.cell (i := 7) rfl rfl)) ?_
  refine ops_val (ex_len_slice Try.underlying34 rfl) ?_
  refine ops_test (ex_gtr rfl rfl) (fun hp9 => ?_) (fun hp9 => ?_)
  · have hlong : 16384 < b.length := by omega
    refine ops_nil ?_
    refine nR31 ?_
    refine run_cond_true rfl ?_
    refine run_seq ?_
    refine run_region ?_
    refine ops_val (ex_assign rfl) ?_
    refine ops_nil ?_
    refine nR31 ?_
    refine run_ret ?_
    refine fin_ret1 rfl rfl ?_
    exact ⟨_, _, _, rfl, .inl ⟨hlong, rfl, rfl, rfl⟩, app_old h H2 [0, 1, 2, 3, 4, 5] (by decide) rfl⟩
  · have hb : b.length ≤ 16384 := by omega
    refine ops_nil ?_
    refine nR31 ?_
    refine run_cond_false rfl ?_
    refine run_skip ?_
    refine run_seq ?_
    refine run_seq ?_
    refine run_region ?_
    refine ops_val (ex_load ty28 rfl (H2.cell (i := 6) rfl rfl)) ?_
    refine ops_call_val (ex_call gf30 rfl) (refused_any m D W _ (H2.pick [0, 1, 2, 3, 4, 5] (by decide)).here (h.move H2 [0, 1, 2, 3, 4, 5] rfl)) ?_
    intro w3 Hc
    have H3 := (H2.callr [0, 1, 2, 3, 4, 5] rfl Hc).pick [8, 9, 10, 11, 12, 13, 6, 7] (by decide)
    refine ops_nil ?_
    refine nR31 ?_
    refine run_cond rfl (fun hb11 => ?_) (fun hb11 => ?_)
    · rw [hb11] at H3
      refine run_seq ?_
      refine run_region ?_
      refine ops_val (ex_assign rfl) ?_
      refine ops_nil ?_
      refine nR31 ?_
      refine run_ret ?_
      refine fin_ret1 rfl rfl ?_
      exact ⟨_, _, _, rfl, .inr (.inl ⟨hb, hb11, rfl, rfl, rfl⟩), app_dead h H3 [0, 1, 2, 3, 4, 5] (by decide) rfl⟩
    · rw [live_eq hb11] at H3
      refine run_skip ?_
      refine run_seq ?_
      refine run_seq ?_
      refine run_mixH [(true, 0), (true, 1), (true, 2), (true, 3), (true, 4), (true, 5), (true, 8), (true, 9), (true, 10), (true, 11), (false, 6), (true, 7), (false, 12), (true, 13), (true, 14), (true, 15)] H3 [0, 3, 6, 7] mixed (by decide) (by kernel_rfl) ?_
      rintro w4 hw4
      have H4 := Hp.drew H3; rw [← hw4] at H4
      refine mix_p rfl ?_
      refine mix1_val (fun wz hz => ex_load ty28 rfl (hz.cell (i := 2) rfl rfl)) ?_
      refine mix_p rfl ?_
      refine mix1_val (fun wz hz => ex_nilCheck rfl) ?_
      refine mix_p rfl ?_
      refine mix1_val (fun wz hz => ex_fieldAddr fl58_7 rfl) ?_
      refine mix_p rfl ?_
      refine mix1_val (fun wz hz => ex_load ty3 rfl (hz.cell (i := 1) rfl rfl)) ?_
      refine nM31 ?_
      refine mix_p rfl ?_
      refine mix1_val (fun wz hz => ex_load ty34 rfl (hz.cell (i := 3) rfl rfl)) ?_
      refine mix_p rfl ?_
      refine mix1_val (fun wz hz => ex_len_slice Try.underlying34 rfl) ?_
      refine mix_p rfl ?_
      refine mix1_val (fun wz hz => ex_load ty28 rfl (hz.cell (i := 2) rfl rfl)) ?_
      refine mix_p rfl ?_
      refine mix1_val (fun wz hz => ex_nilCheck rfl) ?_
      refine nM31 ?_
      refine mix_p rfl ?_
      refine mix1_val (fun wz hz => ex_fieldAddr fl58_0 rfl) ?_
      refine mix_p rfl ?_
      refine mix1_val (fun wz hz => ex_load ty27 rfl (hz.cell (i := 1) rfl rfl)) ?_
      refine mix_o rfl ?_
      refine ops_call_eq (ex_call gf31 rfl) (weight_any b.length _ (by omega)) ?_
      refine ops_nil ?_
      refine ⟨H4.pick [0, 3, 6, 7] (by decide), ?_⟩
      refine nM31 ?_
      refine mix_p rfl ?_
      refine mix1_val (fun wz hz => ex_add rfl rfl (IntWalk.i64_in _ (by have := wgt_le hb; omega))) ?_
      refine mix_o rfl ?_
      refine ops_call_eq (ex_call gf32 rfl) (size_p m.gd D.kept.length _ _ _ (H4.cell (i := 0) rfl rfl)) ?_
      refine ops_nil ?_
      refine ⟨H4.pick [0, 3, 6, 7] (by decide), ?_⟩
      refine nM31 ?_
      refine mix_p rfl ?_
      refine mix1_val (fun wz hz => ex_quo rfl rfl (by omega) (half _ hmost)) ?_
      refine mix_p rfl ?_
      refine mix1_val (fun wz hz => ex_sub rfl rfl (IntWalk.i64_in _ (by omega))) ?_
      refine mix_p rfl ?_
      refine mix1_test (fun wz hz => ex_gtr rfl rfl) (fun hp27 => ?_) (fun hp27 => ?_)
      · have hfull : D.kept.length / 2 < used W.recs + wgt b.length + 16 := by omega
        refine mix_nil ?_
        refine nR31 ?_
        refine run_cond_true rfl ?_
        refine run_seq ?_
        refine run_region ?_
        refine ops_val (ex_assign rfl) ?_
        refine ops_nil ?_
        refine nR31 ?_
        refine run_ret ?_
        refine fin_ret1 rfl rfl ?_
        exact ⟨_, _, _, rfl, .inr (.inr (.inl ⟨hb, hb11, hfull, rfl, rfl, rfl⟩)), app_old h H4 [0, 1, 2, 3, 4, 5] (by decide) rfl⟩
      · have hroom : used W.recs + wgt b.length + 16 ≤ D.kept.length / 2 := by omega
        refine mix_nil ?_
        refine nR31 ?_
        refine run_cond_false rfl ?_
        refine run_skip ?_
        refine run_seq ?_
        refine run_region ?_
        refine ops_val (ex_load ty28 rfl (H4.cell (i := 6) rfl rfl)) ?_
        refine ops_val (ex_makeFunc rfl rfl) ?_
        have hge := used_ge W.recs
        have hwb : 2 ≤ wgt b.length := by unfold wgt; omega
        have hwk : WOk w4 m D W := h.move H4 [0, 1, 2, 3, 4, 5] rfl
        have H6 : Hp w0 w4 _ (wRows m D W) := H4.pick [0, 1, 2, 3, 4, 5] (by decide)
        have hc6 := H4.cell (i := 6) (o := 0) rfl rfl
        have hc7 := H4.cell (i := 7) (o := 0) rfl rfl
        have hn6 : g6 ∉ bl (wRows m D W) := row_not H4 (i := 6) rfl (is := [0, 1, 2, 3, 4, 5]) (by decide)
        have hn7 : g7 ∉ bl (wRows m D W) := row_not H4 (i := 7) rfl (is := [0, 1, 2, 3, 4, 5]) (by decide)
        have hg := guarded_p' m D W w4 H6.here hwk 34 [.pointer (some ⟨g7, 0, none⟩), .pointer (some ⟨g6, 0, none⟩)] gf34
          (fun D' W' => okN (D.kept.length - 2) W.fin (frm b) D (nbk b.length) ∧ D' = putsN (D.kept.length - 2) W.fin (frm b) D (nbk b.length) ∧ W' = W.took D b)
          (fun D' => ∃ k, k < nbk b.length ∧ okN (D.kept.length - 2) W.fin (frm b) D k ∧ ((putsN (D.kept.length - 2) W.fin (frm b) D k).write ((2 + (W.fin + k) % (D.kept.length - 2) : Nat) : Int) (chk (frm b) k)).2 ≠ 0 ∧ D' = putsN (D.kept.length - 2) W.fin (frm b) D (k + 1))
          (fun w1 Hw1 hw1 => by
            have hx := Rn.appendF_any m D W w1 Hw1.here hw1 g7 g6 A b c (cell_toW hc7 Hw1 hn7) hn7 (cell_toW hc6 Hw1 hn6) hn6 (Rd.fcw (Rd.fcw hr H6 ha) Hw1 ha) ha hb (by omega) (by omega) hwt
            exact hx.mono (fun _ w2 hy => ⟨_, _, ⟨hy.1, rfl, rfl⟩, hy.2⟩) (fun ch w2 hy => by obtain ⟨h1, k, h2, h3, h4, h5⟩ := hy; exact ⟨h1, _, ⟨k, h2, h3, h4, rfl⟩, h5⟩))
        refine ops_call_ex (ex_call gf33 rfl) hg ?_
        rintro w5 x ⟨D', W', hcase, hpost⟩
        refine ops_val (ex_assign rfl) ?_
        refine ops_nil ?_
        refine nR31 ?_
        refine run_ret ?_
        refine fin_ret1 rfl rfl ?_
        have hP : WPost w0 w5 _ m D' W' := WPost.of H6 [0, 1, 2, 3, 4, 5] rfl hpost
        refine ⟨x, D', W', rfl, ?_, hP⟩
        rcases hcase with ⟨h1, _⟩ | ⟨h1, ⟨rfl, h2, h3, h4⟩ | ⟨rfl, ⟨k, h2, h3, h4, h5⟩, h6⟩⟩
        · rw [hb11] at h1; cases h1
        · exact .inr (.inr (.inr ⟨hb, hb11, hroom, .inl ⟨h2, rfl, h3, h4⟩⟩))
        · exact .inr (.inr (.inr ⟨hb, hb11, hroom, .inr ⟨rfl, k, h2, h3, h4, h5, h6⟩⟩))
end Go.Proofs.Ytgkciibfpenjpaa
