/- Walks of layer 2, printed by wip/gen/codec.py. -/
import Derived.Test.YtgkciibfpenjpaaNrm
import Derived.Test.YtgkciibfpenjpaaWalD
namespace Go.Proofs.Ytgkciibfpenjpaa
open Go Go.RowKit
set_option linter.unusedVariables false
attribute [local irreducible] Still Ops Does Cd
set_option maxRecDepth 100000 in
set_option maxHeartbeats 4000000 in
theorem guardX_ret (gb ge : Nat) (w0 : World) : CallsDIn (FR none) 0 Try.prog 60 #[.pointer (some ⟨gb, 0, none⟩), .pointer (some ⟨ge, 0, none⟩)] .returning w0 fun e u1 w' => ∃ r, e = .returned r ∧ u1 = .returning ∧ w' = w0 := by
  have hz := recovers (k := 60) (w := w0) (R := fun _ w' => w' = w0) Try.func60 Try.ntmps60 rfl (.inl ⟨rfl, rfl, rfl⟩) (args := [.pointer (some ⟨gb, 0, none⟩), .pointer (some ⟨ge, 0, none⟩)]) rfl ?_
  · exact hz
  -- does_of Try 60 Try 60
  refine nR19 ?_
  refine run_seq ?_
  refine run_region ?_
  refine ops_val (ex_move rfl) ?_
  refine ops_val (ex_neq_nilIface_none Try.underlying20 ⟨_, rfl⟩ rfl) ?_
  refine ops_nil ?_
  refine nR19 ?_
  refine run_cond_false rfl ?_
  refine run_skip ?_
  refine run_nil ?_
  refine fin_end0 rfl ?_
  exact rfl
set_option maxRecDepth 100000 in
set_option maxHeartbeats 4000000 in
theorem guardX_pan (m : Mw) (D : Dk) (W : Wl) (w0 : World) (gb ge : Nat) (x : Int) (H1 : Hp w0 w0 (bl (wRows m D W ++ [(some ge, 32, [.int .i64 x])])) (wRows m D W ++ [(some ge, 32, [.int .i64 x])])) (hb : w0.cell? ⟨gb, 0, none⟩ = some (.pointer (some ⟨m.gv, 0, none⟩))) (hbn : gb ∉ bl (wRows m D W ++ [(some ge, 32, [.int .i64 x])])) : CallsDIn (FR none) 0 Try.prog 60 #[.pointer (some ⟨gb, 0, none⟩), .pointer (some ⟨ge, 0, none⟩)] (.panicking fallC) w0 fun e u1 w' => ∃ r, e = .returned r ∧ u1 = .panicking [{ v := fallV, recovered := true }] ∧ Hp w0 w' (bl (wRows m D W ++ [(some ge, 32, [.int .i64 x])])) (wRows m D { W with dead := true } ++ [(some ge, 32, [.int .i64 40])]) := by
  have hz := recovers (k := 60) (w := w0) (R := fun _ w' => Hp w0 w' (bl (wRows m D W ++ [(some ge, 32, [.int .i64 x])])) (wRows m D { W with dead := true } ++ [(some ge, 32, [.int .i64 40])])) Try.func60 Try.ntmps60 rfl (.inr ⟨fallV, rfl, rfl, rfl⟩) (args := [.pointer (some ⟨gb, 0, none⟩), .pointer (some ⟨ge, 0, none⟩)]) rfl ?_
  · exact hz
  -- does_of Try 60 Try 60
  refine nR19 ?_
  have H := H1
  refine run_seq ?_
  refine run_region ?_
  refine ops_val (ex_move rfl) ?_
  refine ops_val (ex_neq_nilIface_some Try.underlying20 ⟨_, rfl⟩ rfl) ?_
  refine ops_nil ?_
  refine nR19 ?_
  refine run_cond_true rfl ?_
  refine run_seq ?_
  refine run_seq ?_
  refine run_region ?_
  refine ops_val (ex_move rfl) ?_
  refine ops_val (ex_typeAssert Try.underlying73 (fun ms h => (by cases h)) rfl) ?_
  refine ops_val (ex_move rfl) ?_
  refine ops_val (ex_extract rfl rfl) ?_
  refine nO19 ?_
  refine ops_val (ex_extract rfl rfl) ?_
  refine ops_alloc ty73 H ?_
  intro w1 g1 H1 hg1
  refine ops_store ty73 H1 7 (o := 0) (cs := []) (vs := []) rfl rfl rfl rfl rfl (by decide) rfl ?_
  intro w2 H2
  refine ops_val (ex_assign rfl) ?_
  refine ops_nil ?_
  refine nR19 ?_
  refine run_seq ?_
  refine run_region ?_
  refine ops_val (ex_move rfl) ?_
  refine ops_val (ex_not rfl) ?_
  refine ops_nil ?_
  refine nR19 ?_
  refine run_cond_false rfl ?_
  refine run_skip ?_
  refine run_seq ?_
  refine run_region ?_
  refine ops_val (ex_load ty28 rfl (cell_toW hb H2 hbn)) ?_
  refine ops_val (ex_nilCheck rfl) ?_
  refine ops_val (ex_fieldAddr fl58_1 rfl) ?_
  refine ops_store1 ty4 H2 3 rfl rfl rfl rfl (by first | decide | simp) rfl ?_
  intro w3 H3
  refine ops_nil ?_
  refine nR19 ?_
  refine run_region ?_
  refine ops_store1 ty32 H3 6 rfl rfl rfl rfl (by first | decide | simp) rfl ?_
  intro w4 H4
  refine ops_nil ?_
  refine nR19 ?_
  refine run_nil ?_
  refine fin_end0 rfl ?_
  have hy := H4.pick [0, 1, 2, 3, 4, 5, 6] (by decide)
  exact hy
namespace Rn
attribute [local irreducible] Cd
set_option maxRecDepth 100000 in
set_option maxHeartbeats 4000000 in
theorem guarded_p (m : Mw) (D : Dk) (W : Wl) (w0 : World) (H0 : Hp w0 w0 (bl (wRows m D W)) (wRows m D W)) (h : WOk w0 m D W) (fdo : FuncId) (lb : List Value) (hgo : goFn Try.prog fdo = true) (Res : Dk → Wl → Prop) (Fail : Dk → Prop) (hdo : ∀ w1, Hp w0 w1 (bl (wRows m D W)) (wRows m D W) → WOk w1 m D W → DoesP Try.prog fdo lb.toArray w1 (fun _ w2 => ∃ D' W', Res D' W' ∧ WPost w1 w2 (bl (wRows m D W)) m D' W') (fun ch w2 => ch = fallC ∧ ∃ D', Fail D' ∧ WPost w1 w2 (bl (wRows m D W)) m D' W)) :
    DoesP Try.prog 33 #[.pointer (some ⟨m.gv, 0, none⟩), .func (.func fdo) #[] lb.toArray] w0 (fun r w' => ((W.dead || D.down) = true ∧ r = .int .i64 40 ∧ WPost w0 w' (bl (wRows m D W)) m (D) ({ W with dead := true })) ∨ ((W.dead || D.down) = false ∧ ((r = .int .i64 0 ∧ ∃ D' W', Res D' W' ∧ WPost w0 w' (bl (wRows m D W)) m (D') (W')) ∨ (r = .int .i64 40 ∧ ∃ D', Fail D' ∧ WPost w0 w' (bl (wRows m D W)) m (D') ({ W with dead := true }))))) (fun _ _ => False) := by
  refine does_ofD Try.func33 Try.ntmps33 rfl ?_
  change Run _ _ _ _ [.pointer (some ⟨m.gv, 0, none⟩), .func (.func fdo) #[] lb.toArray, undef, undef, undef, undef, undef, undef, undef, undef] _
  have H := H0
  refine run_seq ?_
  refine run_region rfl (fun _ _ h => h) ?_
  refine ops_box rfl rfl H ?_
  intro w1 gb H1 hgb
  refine ops_alloc ty32 H1 ?_
  intro w2 ge H2 hge
  refine ops_nil ?_
  change Run _ _ _ _ [_, _, _, _, _, _, _, _, _, _] _
  refine run_seq ?_
  refine run_seq ?_
  refine run_region rfl (fun _ _ h => h) ?_
  refine ops_val (ex_load ty28 rfl (H2.cell (i := 6) rfl rfl)) ?_
  refine ops_call_val (ex_call gf30 rfl) (refused_any m D W _ (H2.pick [0, 1, 2, 3, 4, 5] (by decide)).here (h.move H2 [0, 1, 2, 3, 4, 5] rfl)) ?_
  intro w3 Hc
  have H3 := (H2.callr [0, 1, 2, 3, 4, 5] rfl Hc).pick [8, 9, 10, 11, 12, 13, 6, 7] (by decide)
  have hlw := (h.lst.to (H2.callr [0, 1, 2, 3, 4, 5] rfl Hc)).less (es' := _) (fun x hx => bl_pick (is := [8, 9, 10, 11, 12, 13, 6, 7]) (H2.callr [0, 1, 2, 3, 4, 5] rfl Hc) x hx)
  refine ops_nil ?_
  change Run _ _ _ _ [_, _, _, _, _, _, _, _, _, _] _
  refine run_cond rfl (fun hb6 => ?_) (fun hb6 => ?_)
  · rw [hb6] at H3
    refine run_seq ?_
    refine run_region rfl (fun _ _ h => h) ?_
    refine ops_store1 ty32 H3 7 rfl rfl rfl rfl (by first | decide | simp) rfl ?_
    intro w4 H4
    refine ops_nil ?_
    change Run _ _ _ _ [_, _, _, _, _, _, _, _, _, _] _
    refine run_ret ?_
    refine finD_ret (results_cell1 rfl ty32 rfl (H4.cell (i := 7) rfl rfl)) (.inl ⟨hb6, rfl, m, rfl, rfl, rfl, XsOk.refl _ _, ?_, ?_⟩)
    · exact { h with lst := (h.lst.to H4).less (fun x hx => bl_pick (is := [0, 1, 2, 3, 4, 5]) H4 x hx) }
    · have hy := H4.pick [0, 1, 2, 3, 4, 5] (by decide)
      exact hy
  · have hWe : ({ W with dead := W.dead || D.down } : Wl) = W := by rw [hb6]; have hx := (Bool.or_eq_false_iff.1 hb6).1; cases W; simp at hx; subst hx; rfl
    rw [hWe] at H3
    refine run_skip ?_
    refine run_seq ?_
    refine run_defer rfl rfl ?_
    change Run _ _ _ _ [_, _, _, _, _, _, _, _, _, _] _
    refine run_seq ?_
    refine run_region rfl (fun _ _ h => h) ?_
    refine ops_val (ex_move rfl) ?_
    have hwk : WOk w3 m D W := h.move H3 [0, 1, 2, 3, 4, 5] rfl
    have hl8 := h.lst.to H3
    have hgel := H3.lt (i := 7) rfl
    have hF8 : ∀ x ∈ bl [((some ge, 32, [Value.int .i64 0]) : Ent)], x ∈ bl (wRows m D W ++ [(some gb, 28, [.pointer (some ⟨m.gv, 0, none⟩)]), (some ge, 32, [Value.int .i64 0])]) ∧ x < w3.heap.size := by
      intro x hx
      have hx2 : x = ge := by simpa [bl] using hx
      subst hx2
      exact ⟨by simp [bl], hgel⟩
    have hsz0 := H3.size
    have hdo1 := hdo w3 (by have hy := H3.pick [0, 1, 2, 3, 4, 5] (by decide); exact hy) hwk
    refine ops_callP (ex_call_val hgo rfl rfl) (by simpa using hdo1) ?_ ?_
    · rintro ch wz ⟨rfl, D1, hF, m1, e1, e2, e3, e4, hok1, Hd⟩
      have hy := (H3.callr [0, 1, 2, 3, 4, 5] rfl Hd).pick [8, 9, 10, 11, 12, 13, 7, 6] (by decide)
      have hy7 := hy.pick [0, 1, 2, 3, 4, 5, 6] (by decide)
      have hbx := hy.cell (i := 7) (o := 0) rfl rfl
      have hbn := row_not hy (i := 7) rfl (is := [0, 1, 2, 3, 4, 5, 6]) (by decide)
      have hlz := Lsw.frame hl8 e4 hok1.lst hF8
      refine leaves_one gf60 (.inr ⟨fallV, rfl, rfl, rfl⟩) ?_
      obtain ⟨hx1, hx2⟩ := guardX_pan m1 D1 W wz gb ge 0 hy7.here (by rw [e3]; exact hbx) hbn
      refine ⟨hx1, fun c cs hu hr => ?_⟩
      obtain ⟨e, u1, w', fr, ⟨r, he, hu1, HX⟩, hrest⟩ := hx2 c cs hu hr
      refine ⟨e, u1, w', fr, ⟨r, he, hu1, _, results_cell1 rfl ty32 rfl (HX.cell (i := 6) (o := 0) rfl rfl), .inr ⟨hb6, .inr ⟨rfl, D1, hF, m1, e1, e2, e3, (XsOk.refl _ _).trans e4 hsz0, ?_, ?_⟩⟩⟩, hrest⟩
      · exact { hok1 with lst := (hlz.to HX).less (fun x hx => bl_pick (is := [0, 1, 2, 3, 4, 5]) HX x hx) }
      · have hz := (hy.callr [0, 1, 2, 3, 4, 5, 6] rfl HX).pick [8, 9, 10, 11, 12, 13] (by decide)
        exact hz
    rintro r w4 ⟨D1, W1, hRes, m1, e1, e2, e3, e4, hok1, Hd⟩
    have Hold := (H3.callr [0, 1, 2, 3, 4, 5] rfl Hd).pick [8, 9, 10, 11, 12, 13, 6, 7] (by decide)
    have hlz := Lsw.frame hl8 e4 hok1.lst hF8
    have H4 := (Hold.pick [0, 1, 2, 3, 4, 5, 7] (by decide)).here
    refine ops_nil ?_
    change Run _ _ _ _ [_, _, _, _, _, _, _, _, _, _] _
    refine run_seq ?_
    refine run_region rfl (fun _ _ h => h) ?_
    refine ops_store1 ty32 H4 6 rfl rfl rfl rfl (by decide) rfl ?_
    intro w5 H5
    refine ops_nil ?_
    change Run _ _ _ _ [_, _, _, _, _, _, _, _, _, _] _
    refine run_ret ?_
    refine leaves_one gf60 (.inl ⟨rfl, rfl, rfl⟩) ?_
    obtain ⟨hx1, hx2⟩ := guardX_ret gb ge w5
    refine ⟨hx1, fun c cs hu hr => ?_⟩
    obtain ⟨e, u1, w', fr, ⟨r, he, hu1, hww⟩, hrest⟩ := hx2 c cs hu hr
    rw [hww] at hrest
    refine ⟨e, u1, w5, fr, ⟨r, he, hu1, _, results_cell1 rfl ty32 rfl (H5.cell (i := 6) (o := 0) rfl rfl), .inr ⟨hb6, .inl ⟨rfl, D1, W1, hRes, m1, e1, e2, e3, (XsOk.refl _ _).trans e4 hsz0, ?_, ?_⟩⟩⟩, hrest⟩
    · exact { hok1 with lst := (hlz.to H5).less (fun x hx => bl_pick (is := [0, 1, 2, 3, 4, 5]) H5 x hx) }
    · have hz := (Hold.callr [0, 1, 2, 3, 4, 5, 7] rfl H5).pick [8, 9, 10, 11, 12, 13] (by decide)
      exact hz
end Rn
end Go.Proofs.Ytgkciibfpenjpaa
