/-
  Parts of the walk, one behind the other.
-/
import Derived.Test.YtbninklfoogmdaaGreatK3
/- Walks of layer 2, printed by wip/gen/codec.py. -/
namespace Go.Proofs.YtbninklfoogmdaaGreat
open Go Go.RowKit
set_option linter.unusedVariables false
attribute [local irreducible] Still Ops Does Cd
set_option maxRecDepth 100000 in
set_option maxHeartbeats 16000000 in
theorem load_r (p : Bal) (first : Int) (A : Option Addr) (k : Nat) (l : List Vt) (ok : Nat → Prop) (w0 : World) (hl : Sl (VtR w0 ok) 4 w0 ok A l) (hn : l.length ≤ 1000000000000) (hf : -4611686018427387904 ≤ first ∧ first ≤ 4611686018427387904) : Does Tryz.prog 47 #[.agg [.int .i64 p.r, .int .i64 p.n].toArray, .int .i64 first, .slice A l.length k] w0 (fun r w' => ∃ a : Option Addr, r = .pointer a ∧ (ldOk p first l = true → ∃ x, a = some x) ∧ (ldOk p first l = false → a = none) ∧ Hp w0 w' [] []) := by
 refine does_of Tryz.func47 Tryz.ntmps47 rfl<|cR e75 ?_
 have H := Hp.refl w0
 obtain ⟨ps, hp, hr, ha, h2⟩ := hl
 have hlen := h2.len
 refine Rq<|ops_box rfl rfl H<|fun w1 gp H1 _=>Xa rfl<|Xr e75<|J1<|Rq<|Xm rfl<|OT (ex_lss rfl rfl) (fun hp11 => ?_) (fun hp11 => ?_)
 refine Xm rfl<|cOp e75<|OZ rfl<|OZ rfl<|Xt rfl rfl<|Xm rfl<|cOp e75<|OZ rfl<|OZ rfl<|cOp e75<|OZ rfl<|OZ rfl<|cOp e75<|OZ rfl<|OZ rfl<|cOp e75<|OZ rfl<|OZ rfl<|Xt rfl rfl<|Xr e75<|J3 rfl<|Rq<|Xa rfl<|Xr e75<|J5<|FN1 rfl rfl ?_
 have hno : ldOk p first l = false := ld_f1 (by omega)
 exact ⟨_, rfl, (fun h => by rw [hno] at h; cases h), fun _ => rfl, H1.noRows⟩
 refine Xm rfl<|cOp e75<|OY rfl<|Xm rfl<|OY rfl<|OT (ex_gtr rfl rfl) (fun hp14 => ?_) (fun hp14 => ?_)
 refine Xu rfl rfl<|Xm rfl<|cOp e75<|OZ rfl<|OZ rfl<|cOp e75<|OZ rfl<|OZ rfl<|cOp e75<|OZ rfl<|OZ rfl<|cOp e75<|OZ rfl<|OZ rfl<|Xt rfl rfl<|Xr e75<|J3 rfl<|Rq<|Xa rfl<|Xr e75<|J5<|FN1 rfl rfl ?_
 have hno : ldOk p first l = false := ld_f1 (by omega)
 exact ⟨_, rfl, (fun h => by rw [hno] at h; cases h), fun _ => rfl, H1.noRows⟩
 refine Xu rfl rfl<|Xm rfl<|cOp e75<|OY rfl<|OV (EN ty36 rfl (vs := [.int .i64 p.r, .int .i64 p.n]) rfl (H1.cellsR (i := 0) rfl rfl))<|OY rfl<|OV (EB ty36 pl36 rfl rfl)<|cOp e75<|OY rfl<|OT (ex_neq_bal rfl rfl) (fun hp19 => ?_) (fun hp19 => ?_)
 refine OY rfl<|Xm rfl<|OY rfl<|OV (EN ty36 rfl (vs := [.int .i64 p.r, .int .i64 p.n]) rfl (H1.cellsR (i := 0) rfl rfl))<|cOp e75<|OY rfl<|OX (EC gf70 rfl) (turn10 _ _) (fun hp22 w2 Hd => ?_) (fun hp22 w2 Hd => ?_)
 have H2 := H1.callN Hd
 refine OY rfl<|Xn rfl<|OY rfl<|Xt rfl rfl<|Xu rfl rfl<|Xr e75<|J4 rfl<|J6<|Rq<|Xm rfl<|OV (ex_sub rfl rfl (IntWalk.i64_in _ (by omega)))<|Xa rfl<|Xr e75<|J1<|Rq<|Xa rfl<|Xr e75<|J7<|run_loop (fun nQ lQ w => ∃ (i : Nat) (y m : Int), l.length - i = nQ ∧ Fits [none, some (.int .i64 first), some (.slice A l.length k), some (.pointer (some ⟨gp, 0, none⟩)), none, none, none, some (.int .i64 m), some (.int .i64 y), none, none, none, none, none, none, none, none, none, none, none, none, none, none, none, none, none, none, none, none, none, none, none, none, none, none, none, none, none, none, none, none, none, none, none, none, none, none, none, none, none, none, none, none, none, none, none, none, none, none, none, none, none, none, none, none, none, none, none, none, none, none, none, none, none, none] lQ ∧ y = (i : Int) ∧ i ≤ l.length ∧ vtsOk p first first l = vtsOk p first (m + 1) (l.drop i) ∧ first ≤ m + 1 ∧ m ≤ first + 16 ∧ Hp w0 w [] [((some gp, 36, [.int .i64 p.r, .int .i64 p.n]) : Ent)]) (l.length) ?_ ?_
 exact ⟨0, _, first - 1, rfl, (fn (fs (fs (fs (fn (fn (fn (fs (fs (fn (fn (fn (fn (fn (fn (fn (fn (fn (fn (fn (fn (fn (fn (fn (fn (fn (fn (fn (fn (fn (fn (fn (fn (fn (fn (fn (fn (fn (fn (fn (fn (fn (fn (fn (fn (fn (fn (fn (fn (fn (fn (fn (fn (fn (fn (fn (fn (fn (fn (fn (fn (fn (fn (fn (fn (fn (fn (fn (fn (fn (fn (fn (fn (fn (fn f0))))))))))))))))))))))))))))))))))))))))))))))))))))))))))))))))))))))))))), rfl, Nat.zero_le _, by rw [Int.sub_add_cancel]; rfl, by omega, by omega, H2⟩
 rintro nQ lQ w3 ⟨i, y, m, rfl, hfit, rfl, hi, hinv, hfm, hfm2, H3⟩
 obtain ⟨j, rfl⟩ := hfit.open
 refine cR e75 ?_
 clear hfit
 have HB := H3
 replace H3 := HB.here
 refine J1<|Rq<|Xm rfl<|Xm rfl<|OV (ES Tryz.underlying54 rfl)<|OT (ex_lss rfl rfl) (fun hp31 => ?_) (fun hp31 => ?_)
 have hil : i < l.length := by omega
 obtain ⟨x, hx⟩ := get_of hil
 obtain ⟨p1, hp1, hR⟩ := h2.get hx
 obtain ⟨Ax, kx, rfl, hbx⟩ := hR
 obtain ⟨a1, ha1⟩ := hr.some_ (by omega)
 subst ha1
 refine Xr e75<|J3 rfl<|J6<|J1<|J7<|Rq<|Xm rfl<|Xm rfl<|OV (EI Tryz.underlying54 ty39 rfl rfl rfl hil rfl)<|OV (EN ty39 rfl (vs := [.int .i64 x.slot, .int .i64 x.b.r, .int .i64 x.b.n, .slice Ax x.val.length kx]) rfl ((hr.to0 (HB.all H3)).elem hp hp1))<|cOp e75<|OA ty39 H3<|fun w4 g4 H4 hg4=>OS ty39 H4 1 rfl rfl rfl rfl rfl (by first | decide | (simp; done) | simp [putAt]) rfl<|fun w5 H5=>Xr e75<|J1<|Rq<|Xf fl39_0 rfl<|OV (EL ty3 rfl (H5.cell (i := 1) rfl rfl))<|Xm rfl<|OT (ex_leq rfl rfl) (fun hp41 => ?_) (fun hp41 => ?_)
 refine Xm rfl<|cOp e75<|OZ rfl<|OZ rfl<|cOp e75<|OZ rfl<|OZ rfl<|cOp e75<|OZ rfl<|Xt rfl rfl<|Xm rfl<|cOp e75<|OZ rfl<|OZ rfl<|cOp e75<|OZ rfl<|OZ rfl<|Xt rfl rfl<|Xm rfl<|cOp e75<|OZ rfl<|OZ rfl<|cOp e75<|OZ rfl<|OZ rfl<|Xt rfl rfl<|Xm rfl<|cOp e75<|OZ rfl<|OZ rfl<|cOp e75<|OZ rfl<|OZ rfl<|Xt rfl rfl<|Xr e75<|J3 rfl<|Rq<|Xa rfl ?_
 refine Xr e75<|J5<|BR<|rnd_ret<|BR<|FN1 rfl rfl ?_
 have hno : ldOk p first l = false := by rw [ld_v (by omega) (by omega), hinv]; exact vts_no hx fun hh => by omega
 exact ⟨_, rfl, (fun h => by rw [hno] at h; cases h), fun _ => rfl, (HB.all H5).noRows⟩
 refine Xm rfl<|cOp e75<|OY rfl<|Xf fl39_0 rfl<|OY rfl<|OV (EL ty3 rfl (H5.cell (i := 1) rfl rfl))<|cOp e75<|OY rfl<|Xm rfl<|OY rfl<|OV (ex_add rfl rfl (IntWalk.i64_in _ (by omega)))<|cOp e75<|OY rfl<|OT (ex_geq rfl rfl) (fun hp47 => ?_) (fun hp47 => ?_)
 refine Xu rfl rfl<|Xm rfl<|cOp e75<|OZ rfl<|OZ rfl<|cOp e75<|OZ rfl<|OZ rfl<|Xt rfl rfl<|Xm rfl<|cOp e75<|OZ rfl<|OZ rfl<|cOp e75<|OZ rfl<|OZ rfl<|Xt rfl rfl<|Xm rfl<|cOp e75<|OZ rfl<|OZ rfl<|cOp e75<|OZ rfl<|OZ rfl<|Xt rfl rfl<|Xr e75<|J3 rfl<|Rq<|Xa rfl<|Xr e75<|J5<|BR<|rnd_ret<|BR<|FN1 rfl rfl ?_
 have hno : ldOk p first l = false := by rw [ld_v (by omega) (by omega), hinv]; exact vts_no hx fun hh => by omega
 exact ⟨_, rfl, (fun h => by rw [hno] at h; cases h), fun _ => rfl, (HB.all H5).noRows⟩
 refine Xu rfl rfl<|Xm rfl<|cOp e75<|OY rfl<|Xf fl39_1 rfl<|OY rfl<|OV (EN ty36 rfl (vs := [.int .i64 x.b.r, .int .i64 x.b.n]) rfl (H5.cellsR (i := 1) rfl rfl))<|cOp e75<|OY rfl<|OX (EC gf70 rfl) (turn10 _ _) (fun hp52 w6 Hd => ?_) (fun hp52 w6 Hd => ?_)
 have H6 := H5.callN Hd
 refine OY rfl<|Xn rfl<|Xu rfl rfl<|Xm rfl<|cOp e75<|OY rfl<|OV (EN ty36 rfl (vs := [.int .i64 p.r, .int .i64 p.n]) rfl (H6.cellsR (i := 0) rfl rfl))<|OY rfl<|Xf fl39_1 rfl<|cOp e75<|OY rfl<|OV (EN ty36 rfl (vs := [.int .i64 x.b.r, .int .i64 x.b.n]) rfl (H6.cellsR (i := 1) rfl rfl))<|OY rfl<|OX (EC gf68 rfl) (less9 _ _ _) (fun hp59 w7 Hd => ?_) (fun hp59 w7 Hd => ?_)
 have H7 := H6.callN Hd
 refine Xu rfl rfl<|Xm rfl<|cOp e75<|OZ rfl<|OZ rfl<|cOp e75<|OZ rfl<|OZ rfl<|Xt rfl rfl<|Xr e75<|J3 rfl<|Rq<|Xa rfl<|Xr e75<|J5<|BR<|rnd_ret<|BR<|FN1 rfl rfl ?_
 have hno : ldOk p first l = false := by rw [ld_v (by omega) (by omega), hinv]; exact vts_no hx fun hh => hh.2.2.2.2.1 hp59
 exact ⟨_, rfl, (fun h => by rw [hno] at h; cases h), fun _ => rfl, (HB.all H7).noRows⟩
 have H7 := H6.callN Hd
 refine Xu rfl rfl<|Xm rfl<|cOp e75<|OY rfl<|Xf fl39_2 rfl<|OY rfl<|OV (EL ty37 rfl (H7.cell (i := 1) rfl rfl))<|cOp e75<|OY rfl<|OV (ES Tryz.underlying37 rfl)<|OY rfl<|OT (ex_gtr rfl rfl) (fun hp65 => ?_) (fun hp65 => ?_)
 refine Xu rfl rfl<|Xr e75<|J3 rfl<|Rq<|Xa rfl<|Xr e75<|J5<|BR<|rnd_ret<|BR<|FN1 rfl rfl ?_
 have hno : ldOk p first l = false := by rw [ld_v (by omega) (by omega), hinv]; exact vts_no hx fun hh => by omega
 exact ⟨_, rfl, (fun h => by rw [hno] at h; cases h), fun _ => rfl, (HB.all H7).noRows⟩
 refine Xu rfl rfl<|Xr e75<|J4 rfl<|J6<|J2<|Xf fl39_0 rfl<|OV (EL ty3 rfl (H7.cell (i := 1) rfl rfl))<|Xa rfl<|Xr e75<|run_nil (blk_normal ?_)
 refine J2<|Xm rfl<|OV (ex_add rfl rfl (IntWalk.i64_in _ (by omega)))<|Xa rfl<|Xr e75<|run_nil (rnd_normal ?_)
 have hgo := vts_go (p := p) (first := first) (m := m + 1) hx ⟨by omega, by omega, hp52.1, hp52.2, hp59, by omega⟩
 exact ⟨l.length - (i + 1), by omega, i + 1, _, x.slot, rfl, (fn (fs (fs (fs (fn (fn (fn (fs (fs (fn (fn (fn (fn (fn (fn (fn (fn (fn (fn (fn (fn (fn (fn (fn (fn (fn (fn (fn (fn (fn (fn (fn (fn (fn (fn (fn (fn (fn (fn (fn (fn (fn (fn (fn (fn (fn (fn (fn (fn (fn (fn (fn (fn (fn (fn (fn (fn (fn (fn (fn (fn (fn (fn (fn (fn (fn (fn (fn (fn (fn (fn (fn (fn (fn (fn f0))))))))))))))))))))))))))))))))))))))))))))))))))))))))))))))))))))))))))), by omega, by omega, by rw [hinv, hgo], by omega, by omega, (HB.all H7).pick [0] (by decide)⟩
 have H6 := H5.callN Hd
 refine OY rfl<|Xn rfl<|Xu rfl rfl<|Xm rfl<|cOp e75<|OZ rfl<|OZ rfl<|cOp e75<|OZ rfl<|OZ rfl<|Xt rfl rfl<|Xm rfl<|cOp e75<|OZ rfl<|OZ rfl<|cOp e75<|OZ rfl<|OZ rfl<|Xt rfl rfl<|Xr e75<|J3 rfl<|Rq<|Xa rfl<|Xr e75<|J5<|BR<|rnd_ret<|BR<|FN1 rfl rfl ?_
 have hno : ldOk p first l = false := by rw [ld_v (by omega) (by omega), hinv]; exact vts_no hx fun hh => hp52 ⟨hh.2.2.1, hh.2.2.2.1⟩
 exact ⟨_, rfl, (fun h => by rw [hno] at h; cases h), fun _ => rfl, (HB.all H6).noRows⟩
 obtain rfl : i = l.length := by omega
 refine Xr e75<|J4 rfl<|J8<|rnd_exit<|blk_exit<|J1<|run_mixZ 6 [(true, 0), (true, 1), (true, 2), (false, 3), (true, 4), (false, 5), (false, 6)] H3 [0] mixed (by decide) (by kernel_rfl) ?_
 rintro w4 hw4
 have H4 := Hp.drew H3; rw [← hw4] at H4
 refine MP rfl<|MV (fun wz hz => EN ty36 rfl (vs := [.int .i64 p.r, .int .i64 p.n]) rfl (hz.cellsR (i := 0) rfl rfl))<|Zm rfl rfl<|Zm rfl rfl<|MO rfl ?_
 have hon := h2.ones fun _ _ h => h.ones
 refine ops_append Tryz.underlying54 ty39 (by decide) (H4.nil 39) 1 (g := none) (n := 0) (cap := 0) (xs := []) (sp := []) rfl rfl rfl (by decide) (by decide) (fun _ => rfl) rfl (hr.to0 (HB.all H4)) (ones_flatten hon) (by omega) (by omega) (by decide)<|fun w5 gv cv sv H5 _ _ _=>OE<|⟨fun hne => H5.pick [0] (by decide), ?_⟩
 refine cZ e75<|MP rfl<|MV (fun wz hz => EB ty111 pl111 rfl rfl)<|MO rfl<|ops_box rfl rfl H5<|fun w6 g6 H6 hg6=>OE<|⟨fun hne => H6.pick [0] (by decide), ?_⟩
 refine cZ e75<|MO rfl<|Xa rfl<|OE<|⟨fun hne => absurd rfl hne, ?_⟩
 refine cZ e75<|ME<|cR e75<|J5<|FN1 rfl rfl<|⟨_, rfl, fun _ => ⟨_, rfl⟩, (fun h => by rw [ld_v (by omega) (by omega), hinv, vts_end] at h; cases h), (HB.all H6).noRows⟩
 have H2 := H1.callN Hd
 refine OY rfl<|Xn rfl<|OY rfl<|Xt rfl rfl<|Xu rfl rfl<|Xr e75<|J3 rfl<|Rq<|Xa rfl<|Xr e75<|J5<|FN1 rfl rfl ?_
 have hno : ldOk p first l = false := ld_f2 (by omega)
 exact ⟨_, rfl, (fun h => by rw [hno] at h; cases h), fun _ => rfl, H2.noRows⟩
 refine OY rfl<|Xm rfl<|OZ rfl<|cOp e75<|OZ rfl<|OZ rfl<|cOp e75<|OY rfl<|Xu rfl rfl<|Xu rfl rfl<|Xr e75<|J4 rfl<|J6<|Rq<|Xm rfl<|OV (ex_sub rfl rfl (IntWalk.i64_in _ (by omega)))<|Xa rfl<|Xr e75<|J1<|Rq<|Xa rfl<|Xr e75<|J7<|run_loop (fun nQ lQ w => ∃ (i : Nat) (y m : Int), l.length - i = nQ ∧ Fits [none, some (.int .i64 first), some (.slice A l.length k), some (.pointer (some ⟨gp, 0, none⟩)), none, none, none, some (.int .i64 m), some (.int .i64 y), none, none, none, none, none, none, none, none, none, none, none, none, none, none, none, none, none, none, none, none, none, none, none, none, none, none, none, none, none, none, none, none, none, none, none, none, none, none, none, none, none, none, none, none, none, none, none, none, none, none, none, none, none, none, none, none, none, none, none, none, none, none, none, none, none, none] lQ ∧ y = (i : Int) ∧ i ≤ l.length ∧ vtsOk p first first l = vtsOk p first (m + 1) (l.drop i) ∧ first ≤ m + 1 ∧ m ≤ first + 16 ∧ Hp w0 w [] [((some gp, 36, [.int .i64 p.r, .int .i64 p.n]) : Ent)]) (l.length) ?_ ?_
 exact ⟨0, _, first - 1, rfl, (fn (fs (fs (fs (fn (fn (fn (fs (fs (fn (fn (fn (fn (fn (fn (fn (fn (fn (fn (fn (fn (fn (fn (fn (fn (fn (fn (fn (fn (fn (fn (fn (fn (fn (fn (fn (fn (fn (fn (fn (fn (fn (fn (fn (fn (fn (fn (fn (fn (fn (fn (fn (fn (fn (fn (fn (fn (fn (fn (fn (fn (fn (fn (fn (fn (fn (fn (fn (fn (fn (fn (fn (fn (fn (fn f0))))))))))))))))))))))))))))))))))))))))))))))))))))))))))))))))))))))))))), rfl, Nat.zero_le _, by rw [Int.sub_add_cancel]; rfl, by omega, by omega, H1⟩
 rintro nQ lQ w2 ⟨i, y, m, rfl, hfit, rfl, hi, hinv, hfm, hfm2, H2⟩
 obtain ⟨j, rfl⟩ := hfit.open
 refine cR e75 ?_
 clear hfit
 have HB := H2
 replace H2 := HB.here
 refine J1<|Rq<|Xm rfl<|Xm rfl<|OV (ES Tryz.underlying54 rfl)<|OT (ex_lss rfl rfl) (fun hp31 => ?_) (fun hp31 => ?_)
 have hil : i < l.length := by omega
 obtain ⟨x, hx⟩ := get_of hil
 obtain ⟨p1, hp1, hR⟩ := h2.get hx
 obtain ⟨Ax, kx, rfl, hbx⟩ := hR
 obtain ⟨a1, ha1⟩ := hr.some_ (by omega)
 subst ha1
 refine Xr e75<|J3 rfl<|J6<|J1<|J7<|Rq<|Xm rfl<|Xm rfl<|OV (EI Tryz.underlying54 ty39 rfl rfl rfl hil rfl)<|OV (EN ty39 rfl (vs := [.int .i64 x.slot, .int .i64 x.b.r, .int .i64 x.b.n, .slice Ax x.val.length kx]) rfl ((hr.to0 (HB.all H2)).elem hp hp1))<|cOp e75<|OA ty39 H2<|fun w3 g3 H3 hg3=>OS ty39 H3 1 rfl rfl rfl rfl rfl (by first | decide | (simp; done) | simp [putAt]) rfl<|fun w4 H4=>Xr e75<|J1<|Rq<|Xf fl39_0 rfl<|OV (EL ty3 rfl (H4.cell (i := 1) rfl rfl))<|Xm rfl<|OT (ex_leq rfl rfl) (fun hp41 => ?_) (fun hp41 => ?_)
 refine Xm rfl<|cOp e75<|OZ rfl<|OZ rfl<|cOp e75<|OZ rfl<|OZ rfl<|cOp e75<|OZ rfl<|Xt rfl rfl<|Xm rfl<|cOp e75<|OZ rfl<|OZ rfl<|cOp e75<|OZ rfl<|OZ rfl<|Xt rfl rfl<|Xm rfl<|cOp e75<|OZ rfl<|OZ rfl<|cOp e75<|OZ rfl<|OZ rfl<|Xt rfl rfl<|Xm rfl<|cOp e75<|OZ rfl<|OZ rfl<|cOp e75<|OZ rfl<|OZ rfl<|Xt rfl rfl<|Xr e75<|J3 rfl<|Rq<|Xa rfl ?_
 refine Xr e75<|J5<|BR<|rnd_ret<|BR<|FN1 rfl rfl ?_
 have hno : ldOk p first l = false := by rw [ld_v (by omega) (by omega), hinv]; exact vts_no hx fun hh => by omega
 exact ⟨_, rfl, (fun h => by rw [hno] at h; cases h), fun _ => rfl, (HB.all H4).noRows⟩
 refine Xm rfl<|cOp e75<|OY rfl<|Xf fl39_0 rfl<|OY rfl<|OV (EL ty3 rfl (H4.cell (i := 1) rfl rfl))<|cOp e75<|OY rfl<|Xm rfl<|OY rfl<|OV (ex_add rfl rfl (IntWalk.i64_in _ (by omega)))<|cOp e75<|OY rfl<|OT (ex_geq rfl rfl) (fun hp47 => ?_) (fun hp47 => ?_)
 refine Xu rfl rfl<|Xm rfl<|cOp e75<|OZ rfl<|OZ rfl<|cOp e75<|OZ rfl<|OZ rfl<|Xt rfl rfl<|Xm rfl<|cOp e75<|OZ rfl<|OZ rfl<|cOp e75<|OZ rfl<|OZ rfl<|Xt rfl rfl<|Xm rfl<|cOp e75<|OZ rfl<|OZ rfl<|cOp e75<|OZ rfl<|OZ rfl<|Xt rfl rfl<|Xr e75<|J3 rfl<|Rq<|Xa rfl<|Xr e75<|J5<|BR<|rnd_ret<|BR<|FN1 rfl rfl ?_
 have hno : ldOk p first l = false := by rw [ld_v (by omega) (by omega), hinv]; exact vts_no hx fun hh => by omega
 exact ⟨_, rfl, (fun h => by rw [hno] at h; cases h), fun _ => rfl, (HB.all H4).noRows⟩
 refine Xu rfl rfl<|Xm rfl<|cOp e75<|OY rfl<|Xf fl39_1 rfl<|OY rfl<|OV (EN ty36 rfl (vs := [.int .i64 x.b.r, .int .i64 x.b.n]) rfl (H4.cellsR (i := 1) rfl rfl))<|cOp e75<|OY rfl<|OX (EC gf70 rfl) (turn10 _ _) (fun hp52 w5 Hd => ?_) (fun hp52 w5 Hd => ?_)
 have H5 := H4.callN Hd
 refine OY rfl<|Xn rfl<|Xu rfl rfl<|Xm rfl<|cOp e75<|OY rfl<|OV (EN ty36 rfl (vs := [.int .i64 p.r, .int .i64 p.n]) rfl (H5.cellsR (i := 0) rfl rfl))<|OY rfl<|Xf fl39_1 rfl<|cOp e75<|OY rfl<|OV (EN ty36 rfl (vs := [.int .i64 x.b.r, .int .i64 x.b.n]) rfl (H5.cellsR (i := 1) rfl rfl))<|OY rfl<|OX (EC gf68 rfl) (less9 _ _ _) (fun hp59 w6 Hd => ?_) (fun hp59 w6 Hd => ?_)
 have H6 := H5.callN Hd
 refine Xu rfl rfl<|Xm rfl<|cOp e75<|OZ rfl<|OZ rfl<|cOp e75<|OZ rfl<|OZ rfl<|Xt rfl rfl<|Xr e75<|J3 rfl<|Rq<|Xa rfl<|Xr e75<|J5<|BR<|rnd_ret<|BR<|FN1 rfl rfl ?_
 have hno : ldOk p first l = false := by rw [ld_v (by omega) (by omega), hinv]; exact vts_no hx fun hh => hh.2.2.2.2.1 hp59
 exact ⟨_, rfl, (fun h => by rw [hno] at h; cases h), fun _ => rfl, (HB.all H6).noRows⟩
 have H6 := H5.callN Hd
 refine Xu rfl rfl<|Xm rfl<|cOp e75<|OY rfl<|Xf fl39_2 rfl<|OY rfl<|OV (EL ty37 rfl (H6.cell (i := 1) rfl rfl))<|cOp e75<|OY rfl<|OV (ES Tryz.underlying37 rfl)<|OY rfl<|OT (ex_gtr rfl rfl) (fun hp65 => ?_) (fun hp65 => ?_)
 refine Xu rfl rfl<|Xr e75<|J3 rfl<|Rq<|Xa rfl<|Xr e75<|J5<|BR<|rnd_ret<|BR<|FN1 rfl rfl ?_
 have hno : ldOk p first l = false := by rw [ld_v (by omega) (by omega), hinv]; exact vts_no hx fun hh => by omega
 exact ⟨_, rfl, (fun h => by rw [hno] at h; cases h), fun _ => rfl, (HB.all H6).noRows⟩
 refine Xu rfl rfl<|Xr e75<|J4 rfl<|J6<|J2<|Xf fl39_0 rfl<|OV (EL ty3 rfl (H6.cell (i := 1) rfl rfl))<|Xa rfl<|Xr e75<|run_nil (blk_normal ?_)
 refine J2<|Xm rfl<|OV (ex_add rfl rfl (IntWalk.i64_in _ (by omega)))<|Xa rfl<|Xr e75<|run_nil (rnd_normal ?_)
 have hgo := vts_go (p := p) (first := first) (m := m + 1) hx ⟨by omega, by omega, hp52.1, hp52.2, hp59, by omega⟩
 exact ⟨l.length - (i + 1), by omega, i + 1, _, x.slot, rfl, (fn (fs (fs (fs (fn (fn (fn (fs (fs (fn (fn (fn (fn (fn (fn (fn (fn (fn (fn (fn (fn (fn (fn (fn (fn (fn (fn (fn (fn (fn (fn (fn (fn (fn (fn (fn (fn (fn (fn (fn (fn (fn (fn (fn (fn (fn (fn (fn (fn (fn (fn (fn (fn (fn (fn (fn (fn (fn (fn (fn (fn (fn (fn (fn (fn (fn (fn (fn (fn (fn (fn (fn (fn (fn (fn f0))))))))))))))))))))))))))))))))))))))))))))))))))))))))))))))))))))))))))), by omega, by omega, by rw [hinv, hgo], by omega, by omega, (HB.all H6).pick [0] (by decide)⟩
 have H5 := H4.callN Hd
 refine OY rfl<|Xn rfl<|Xu rfl rfl<|Xm rfl<|cOp e75<|OZ rfl<|OZ rfl<|cOp e75<|OZ rfl<|OZ rfl<|Xt rfl rfl<|Xm rfl<|cOp e75<|OZ rfl<|OZ rfl<|cOp e75<|OZ rfl<|OZ rfl<|Xt rfl rfl<|Xr e75<|J3 rfl<|Rq<|Xa rfl<|Xr e75<|J5<|BR<|rnd_ret<|BR<|FN1 rfl rfl ?_
 have hno : ldOk p first l = false := by rw [ld_v (by omega) (by omega), hinv]; exact vts_no hx fun hh => hp52 ⟨hh.2.2.1, hh.2.2.2.1⟩
 exact ⟨_, rfl, (fun h => by rw [hno] at h; cases h), fun _ => rfl, (HB.all H5).noRows⟩
 obtain rfl : i = l.length := by omega
 refine Xr e75<|J4 rfl<|J8<|rnd_exit<|blk_exit<|J1<|run_mixZ 6 [(true, 0), (true, 1), (true, 2), (false, 3), (true, 4), (false, 5), (false, 6)] H2 [0] mixed (by decide) (by kernel_rfl) ?_
 rintro w3 hw3
 have H3 := Hp.drew H2; rw [← hw3] at H3
 refine MP rfl<|MV (fun wz hz => EN ty36 rfl (vs := [.int .i64 p.r, .int .i64 p.n]) rfl (hz.cellsR (i := 0) rfl rfl))<|Zm rfl rfl<|Zm rfl rfl<|MO rfl ?_
 have hon := h2.ones fun _ _ h => h.ones
 refine ops_append Tryz.underlying54 ty39 (by decide) (H3.nil 39) 1 (g := none) (n := 0) (cap := 0) (xs := []) (sp := []) rfl rfl rfl (by decide) (by decide) (fun _ => rfl) rfl (hr.to0 (HB.all H3)) (ones_flatten hon) (by omega) (by omega) (by decide)<|fun w4 gv cv sv H4 _ _ _=>OE<|⟨fun hne => H4.pick [0] (by decide), ?_⟩
 refine cZ e75<|MP rfl<|MV (fun wz hz => EB ty111 pl111 rfl rfl)<|MO rfl<|ops_box rfl rfl H4<|fun w5 g5 H5 hg5=>OE<|⟨fun hne => H5.pick [0] (by decide), ?_⟩
 refine cZ e75<|MO rfl<|Xa rfl<|OE<|⟨fun hne => absurd rfl hne, ?_⟩
 refine cZ e75<|ME<|cR e75<|J5<|FN1 rfl rfl<|⟨_, rfl, fun _ => ⟨_, rfl⟩, (fun h => by rw [ld_v (by omega) (by omega), hinv, vts_end] at h; cases h), (HB.all H5).noRows⟩
set_option maxRecDepth 100000 in
set_option maxHeartbeats 16000000 in
theorem check_r (s : Sv) (A1 : Option Addr) (k1 : Nat) (A2 : Option Addr) (k2 : Nat) (A3 : Option Addr) (k3 : Nat) (ok : Nat → Prop) (w0 : World) (hv1 : Sl (VtR w0 ok) 4 w0 ok A1 s.votes) (hv2 : Bs w0 ok A2 s.image) (hv3 : Sl (EnR w0 ok) 2 w0 ok A3 s.entries) (hvl : s.votes.length ≤ 1000000000000) (hel2 : s.entries.length ≤ 2000000000000) : Does Tryz.prog 26 #[.int .i64 1, .int .i64 5, .agg [.int .i64 s.p.r, .int .i64 s.p.n, .slice A1 s.votes.length k1, .int .i64 s.index, .slice A2 s.image.length k2, .slice A3 s.entries.length k3].toArray] w0 (fun r w' => ∃ e : Int, r = .int .i64 e ∧ Ans (chk s) e ∧ Hp w0 w' [] []) := by
 refine does_of Tryz.func26 Tryz.ntmps26 rfl<|cR e109 ?_
 have H := Hp.refl w0
 obtain ⟨pe, hpe, hre, hae, he2⟩ := id hv3
 have hel := he2.len
 refine Rq<|ops_box rfl rfl H<|fun w1 gs H1 _=>Xa rfl<|Xr e109<|J1<|Rq<|Xm rfl<|OT1 (ex_neq rfl rfl) (by decide)<|Xm rfl<|cOp e109<|OY rfl<|Xm rfl<|OY rfl<|OT1 (ex_neq rfl rfl) (by decide)<|Xt rfl rfl<|Xm rfl<|cOp e109<|OY rfl<|Xm rfl<|OY rfl<|OT0 (ex_neq rfl rfl) (by decide)<|Xt rfl rfl<|Xm rfl<|cOp e109<|OY rfl<|Xm rfl<|OY rfl<|OT0 (ex_lss rfl rfl) (by decide)<|Xu rfl rfl<|Xm rfl<|cOp e109<|OY rfl<|Xm rfl<|OY rfl<|Xm rfl<|cOp e109 ?_
 refine OY rfl<|OT0 (ex_gtr rfl rfl) (by decide)<|Xu rfl rfl<|Xr e109<|J4 rfl<|J6<|J1<|Rq<|Xf fl57_0 rfl<|OV (EN ty36 rfl (vs := [.int .i64 s.p.r, .int .i64 s.p.n]) rfl (H1.cellsR (i := 0) rfl rfl))<|OV (EB ty36 pl36 rfl rfl)<|OT (ex_neq_bal rfl rfl) (fun hp31 => ?_) (fun hp31 => ?_)
 refine Xm rfl<|cOp e109<|OY rfl<|Xf fl57_0 rfl<|OY rfl<|OV (EN ty36 rfl (vs := [.int .i64 s.p.r, .int .i64 s.p.n]) rfl (H1.cellsR (i := 0) rfl rfl))<|cOp e109<|OY rfl<|Xm rfl<|OY rfl<|OX (EC gf46 rfl) (may9 _ _ _) (fun hp36 w2 Hd => ?_) (fun hp36 w2 Hd => ?_)
 have H2 := H1.callN Hd
 refine OY rfl<|Xn rfl<|Xt rfl rfl<|Xm rfl<|cOp e109<|OY rfl<|Xf fl57_2 rfl<|OY rfl<|OV (EL ty3 rfl (H2.cell (i := 0) rfl rfl))<|cOp e109<|OY rfl<|OT (ex_lss rfl rfl) (fun hp42 => ?_) (fun hp42 => ?_)
 refine Xu rfl rfl<|Xm rfl<|cOp e109<|OZ rfl<|OZ rfl<|cOp e109<|OZ rfl<|Xt rfl rfl<|Xm rfl<|cOp e109<|OZ rfl<|OZ rfl<|cOp e109<|OZ rfl<|OZ rfl<|cOp e109<|OZ rfl<|OZ rfl<|cOp e109<|OZ rfl<|OZ rfl<|cOp e109<|OZ rfl<|Xt rfl rfl<|Xm rfl<|cOp e109<|OZ rfl<|OZ rfl<|cOp e109<|OZ rfl<|OZ rfl<|Xt rfl rfl<|Xr e109<|J3 rfl<|Rq<|Xa rfl<|Xr e109 ?_
 refine J5<|FN1 rfl rfl<|⟨_, rfl, Ans.no (chk_f2 (by omega)), H2.noRows⟩
 refine Xu rfl rfl<|Xm rfl<|cOp e109<|OY rfl<|Xf fl57_2 rfl<|OY rfl<|OV (EL ty3 rfl (H2.cell (i := 0) rfl rfl))<|cOp e109<|OY rfl<|OT (ex_gtr rfl rfl) (fun hp47 => ?_) (fun hp47 => ?_)
 refine Xu rfl rfl<|Xm rfl<|cOp e109<|OZ rfl<|OZ rfl<|cOp e109<|OZ rfl<|OZ rfl<|cOp e109<|OZ rfl<|OZ rfl<|cOp e109<|OZ rfl<|OZ rfl<|cOp e109<|OZ rfl<|Xt rfl rfl<|Xm rfl<|cOp e109<|OZ rfl<|OZ rfl<|cOp e109<|OZ rfl<|OZ rfl<|Xt rfl rfl<|Xr e109<|J3 rfl<|Rq<|Xa rfl<|Xr e109<|J5<|FN1 rfl rfl<|⟨_, rfl, Ans.no (chk_f2 (by omega)), H2.noRows⟩
 refine Xu rfl rfl<|Xm rfl<|cOp e109<|OY rfl<|Xf fl57_2 rfl<|OY rfl<|OV (EL ty3 rfl (H2.cell (i := 0) rfl rfl))<|cOp e109<|OY rfl<|OT (ex_eql rfl rfl) (fun hp52 => ?_) (fun hp52 => ?_)
 refine OY rfl<|Xm rfl<|OY rfl<|Xf fl57_3 rfl<|cOp e109<|OY rfl<|OV (EL ty37 rfl (H2.cell (i := 0) rfl rfl))<|OY rfl<|OV (ES Tryz.underlying37 rfl)<|cOp e109<|OY rfl<|OT (ex_gtr rfl rfl) (fun hp57 => ?_) (fun hp57 => ?_)
 refine OY rfl<|Xt rfl rfl<|Xu rfl rfl<|Xm rfl<|cOp e109<|OZ rfl<|OZ rfl<|cOp e109<|OZ rfl<|OZ rfl<|Xt rfl rfl<|Xr e109<|J3 rfl<|Rq<|Xa rfl<|Xr e109<|J5<|FN1 rfl rfl<|⟨_, rfl, Ans.no (chk_f2 (by omega)), H2.noRows⟩
 refine OY rfl<|Xt rfl rfl<|Xu rfl rfl<|Xm rfl<|cOp e109<|OY rfl<|Xf fl57_3 rfl<|OY rfl<|OV (EL ty37 rfl (H2.cell (i := 0) rfl rfl))<|cOp e109<|OY rfl<|OV (ES Tryz.underlying37 rfl)<|OY rfl<|OT (ex_gtr rfl rfl) (fun hp64 => ?_) (fun hp64 => ?_)
 refine Xu rfl rfl<|Xr e109<|J3 rfl<|Rq<|Xa rfl<|Xr e109<|J5<|FN1 rfl rfl<|⟨_, rfl, Ans.no (chk_f2 (by omega)), H2.noRows⟩
 refine Xu rfl rfl<|Xr e109<|J4 rfl<|J6<|Rq<|Xf fl57_2 rfl<|OV (EL ty3 rfl (H2.cell (i := 0) rfl rfl))<|Xa rfl<|Xr e109<|J1<|Rq<|Xa rfl<|Xr e109<|J7<|run_loop (fun nQ lQ w => ∃ (i : Nat) (y m : Int), s.entries.length - i = nQ ∧ Fits [none, some (.int .i64 5), none, none, none, some (.pointer (some ⟨gs, 0, none⟩)), none, some (.int .i64 m), some (.int .i64 y), none, none, none, none, none, none, none, none, none, none, none, none, none, none, none, none, none, none, none, none, none, none, none, none, none, none, none, none, none, none, none, none, none, none, none, none, none, none, none, none, none, none, none, none, none, none, none, none, none, none, none, none, none, none, none, none, none, none, none, none, none, none, none, none, none, none, none, none, none, none, none, none, none, none, none, none, none, none, none, none, none, none, none, none, none, none, none, none, none, none, none, none, none, none, none, none, none, none, none, none] lQ ∧ y = (i : Int) ∧ m = s.index + i ∧ i ≤ s.entries.length ∧ entOk s.index s.entries = entOk (s.index + i) (s.entries.drop i) ∧ Hp w0 w [] [((some gs, 57, [.int .i64 s.p.r, .int .i64 s.p.n, .slice A1 s.votes.length k1, .int .i64 s.index, .slice A2 s.image.length k2, .slice A3 s.entries.length k3]) : Ent)]) (s.entries.length) ?_ ?_
 exact ⟨0, _, _, rfl, (fn (fs (fn (fn (fn (fs (fn (fs (fs (fn (fn (fn (fn (fn (fn (fn (fn (fn (fn (fn (fn (fn (fn (fn (fn (fn (fn (fn (fn (fn (fn (fn (fn (fn (fn (fn (fn (fn (fn (fn (fn (fn (fn (fn (fn (fn (fn (fn (fn (fn (fn (fn (fn (fn (fn (fn (fn (fn (fn (fn (fn (fn (fn (fn (fn (fn (fn (fn (fn (fn (fn (fn (fn (fn (fn (fn (fn (fn (fn (fn (fn (fn (fn (fn (fn (fn (fn (fn (fn (fn (fn (fn (fn (fn (fn (fn (fn (fn (fn (fn (fn (fn (fn (fn (fn (fn (fn (fn (fn f0))))))))))))))))))))))))))))))))))))))))))))))))))))))))))))))))))))))))))))))))))))))))))))))))))))))))))))), rfl, by simp, Nat.zero_le _, by simp, H2⟩
 rintro nQ lQ w3 ⟨i, y, m, rfl, hfit, rfl, hm, hi, hinv, H3⟩
 obtain ⟨j, rfl⟩ := hfit.open
 refine cR e109 ?_
 clear hfit
 refine J1<|Rq<|Xm rfl<|Xf fl57_4 rfl<|OV (EL ty55 rfl (H3.cell (i := 0) rfl rfl))<|OV (ES Tryz.underlying55 rfl)<|cOp e109<|OT (ex_lss rfl rfl) (fun hp72 => ?_) (fun hp72 => ?_)
 have hil : i < s.entries.length := by omega
 obtain ⟨x, hx⟩ := get_of hil
 obtain ⟨p1, hp1, hR⟩ := he2.get hx
 obtain ⟨Ax, kx, rfl, hbx⟩ := hR
 obtain ⟨a1, ha1⟩ := hre.some_ (by omega)
 subst ha1
 refine Xr e109<|J3 rfl<|J6<|J1<|J7<|J1<|Rq<|Xf fl57_4 rfl<|OV (EL ty55 rfl (H3.cell (i := 0) rfl rfl))<|Xm rfl<|OV (EI Tryz.underlying55 ty41 rfl rfl rfl hil rfl)<|cOp e109<|OV (ex_fieldAddrA fl41_0 rfl)<|OV (EL ty3 rfl (((hre.to0 H3).elem hpe hp1) 0 _ rfl))<|Xm rfl<|OV (ex_add rfl rfl (IntWalk.i64_in _ (by omega)))<|cOp e109<|OT (ex_neq rfl rfl) (fun hp83 => ?_) (fun hp83 => ?_)
 refine Xm rfl<|OZ rfl<|cOp e109<|OZ rfl<|OZ rfl<|Xt rfl rfl<|Xm rfl<|cOp e109<|OZ rfl<|OZ rfl<|cOp e109<|OZ rfl<|OZ rfl<|cOp e109<|OZ rfl<|OZ rfl<|cOp e109<|OZ rfl<|OZ rfl<|Xt rfl rfl<|Xr e109<|J3 rfl<|Rq<|Xa rfl<|Xr e109<|J5<|BR<|rnd_ret<|BR<|FN1 rfl rfl<|⟨_, rfl, Ans.no (chk_f3 (by rw [hinv]; exact ent_no hx fun hh => by omega)), H3.noRows⟩
 refine Xm rfl<|OY rfl<|Xm rfl<|cOp e109<|OY rfl<|OV (ex_add rfl rfl (IntWalk.i64_in _ (by omega)))<|OY rfl<|OT (ex_gtr rfl rfl) (fun hp87 => ?_) (fun hp87 => ?_)
 refine Xu rfl rfl<|Xm rfl<|cOp e109<|OZ rfl<|OZ rfl<|cOp e109<|OZ rfl<|OZ rfl<|cOp e109<|OZ rfl<|OZ rfl<|cOp e109<|OZ rfl<|OZ rfl<|Xt rfl rfl<|Xr e109<|J3 rfl<|Rq<|Xa rfl<|Xr e109<|J5<|BR<|rnd_ret<|BR<|FN1 rfl rfl<|⟨_, rfl, Ans.no (chk_f3 (by rw [hinv]; exact ent_no hx fun hh => by omega)), H3.noRows⟩
 refine Xu rfl rfl<|Xm rfl<|cOp e109<|OY rfl<|Xf fl57_4 rfl<|OY rfl<|OV (EL ty55 rfl (H3.cell (i := 0) rfl rfl))<|cOp e109<|OY rfl<|Xm rfl<|OY rfl<|OV (EI Tryz.underlying55 ty41 rfl rfl rfl hil rfl)<|cOp e109<|OY rfl<|OV (ex_fieldAddrA fl41_1 rfl)<|OY rfl<|OV (EL ty37 rfl (((hre.to0 H3).elem hpe hp1) 1 _ rfl))<|cOp e109<|OY rfl<|OV (ES Tryz.underlying37 rfl)<|OY rfl<|OT (ex_gtr rfl rfl) (fun hp97 => ?_) (fun hp97 => ?_)
 refine Xu rfl rfl<|Xr e109<|J3 rfl<|Rq<|Xa rfl<|Xr e109<|J5<|BR<|rnd_ret<|BR<|FN1 rfl rfl<|⟨_, rfl, Ans.no (chk_f3 (by rw [hinv]; exact ent_no hx fun hh => by omega)), H3.noRows⟩
 refine Xu rfl rfl<|Xr e109<|J4 rfl<|J6<|J2<|Xm rfl<|OV (ex_add rfl rfl (IntWalk.i64_in _ (by omega)))<|Xa rfl<|Xr e109<|run_nil (blk_normal ?_)
 refine J2<|Xm rfl<|OV (ex_add rfl rfl (IntWalk.i64_in _ (by omega)))<|Xa rfl<|Xr e109<|run_nil (rnd_normal ?_)
 have hgo := ent_go (m := s.index + i) hx ⟨by omega, by omega, by omega⟩
 exact ⟨s.entries.length - (i + 1), by omega, i + 1, _, _, rfl, (fn (fs (fn (fn (fn (fs (fn (fs (fs (fn (fn (fn (fn (fn (fn (fn (fn (fn (fn (fn (fn (fn (fn (fn (fn (fn (fn (fn (fn (fn (fn (fn (fn (fn (fn (fn (fn (fn (fn (fn (fn (fn (fn (fn (fn (fn (fn (fn (fn (fn (fn (fn (fn (fn (fn (fn (fn (fn (fn (fn (fn (fn (fn (fn (fn (fn (fn (fn (fn (fn (fn (fn (fn (fn (fn (fn (fn (fn (fn (fn (fn (fn (fn (fn (fn (fn (fn (fn (fn (fn (fn (fn (fn (fn (fn (fn (fn (fn (fn (fn (fn (fn (fn (fn (fn (fn (fn (fn (fn f0))))))))))))))))))))))))))))))))))))))))))))))))))))))))))))))))))))))))))))))))))))))))))))))))))))))))))))), by omega, by omega, by omega, by rw [hinv, hgo]; congr 1; omega, H3.pick [0] (by decide)⟩
 obtain rfl : i = s.entries.length := by omega
 have hent := hinv.trans ent_end
 subst hm
 refine Xr e109<|J4 rfl<|J8<|rnd_exit<|blk_exit<|J1<|Rq<|Xf fl57_0 rfl<|OV (EN ty36 rfl (vs := [.int .i64 s.p.r, .int .i64 s.p.n]) rfl (H3.cellsR (i := 0) rfl rfl))<|Xm rfl<|OV (ex_add rfl rfl (IntWalk.i64_in _ (by omega)))<|cOp e109<|Xf fl57_1 rfl<|OV (EL ty54 rfl (H3.cell (i := 0) rfl rfl))<|OQ (EC gf47 rfl) (load_r s.p (s.index + s.entries.length + 1) A1 k1 s.votes ok _ (hv1.toV H3 k0) (by omega) (by omega)) ?_
 rintro _ w4 ⟨a, rfl, hyes, hno, Hd⟩
 have H4 := H3.callN Hd
 rw [← chk_ld (by omega) (by omega) hent] at hyes hno
 refine OT (ex_eql_nil_ptr Tryz.underlying90 rfl) (fun hp108 => ?_) (fun hp108 => ?_)
 refine Xr e109<|J3 rfl<|Rq<|Xa rfl<|Xr e109<|J5<|FN1 rfl rfl<|⟨_, rfl, Ans.no (by cases hc : chk s with | false => rfl | true => obtain ⟨x, hx⟩ := hyes hc; rw [hx] at hp108; cases hp108), H4.noRows⟩
 refine Xr e109<|J4 rfl<|J6<|Rq<|Xa rfl<|Xr e109<|J5<|FN1 rfl rfl<|⟨_, rfl, Ans.ok (by cases hc : chk s with | true => rfl | false => exact absurd (hno hc) hp108), H4.noRows⟩
 refine OY rfl<|Xm rfl<|OZ rfl<|cOp e109<|OZ rfl<|OZ rfl<|cOp e109<|OZ rfl<|OY rfl<|Xu rfl rfl<|Xu rfl rfl<|Xm rfl<|cOp e109<|OY rfl<|Xf fl57_3 rfl<|OY rfl<|OV (EL ty37 rfl (H2.cell (i := 0) rfl rfl))<|cOp e109<|OY rfl<|OV (ES Tryz.underlying37 rfl)<|OY rfl<|OT (ex_gtr rfl rfl) (fun hp64 => ?_) (fun hp64 => ?_)
 refine Xu rfl rfl<|Xr e109<|J3 rfl<|Rq<|Xa rfl<|Xr e109<|J5<|FN1 rfl rfl<|⟨_, rfl, Ans.no (chk_f2 (by omega)), H2.noRows⟩
 refine Xu rfl rfl<|Xr e109<|J4 rfl<|J6<|Rq<|Xf fl57_2 rfl<|OV (EL ty3 rfl (H2.cell (i := 0) rfl rfl))<|Xa rfl<|Xr e109<|J1<|Rq<|Xa rfl<|Xr e109<|J7<|run_loop (fun nQ lQ w => ∃ (i : Nat) (y m : Int), s.entries.length - i = nQ ∧ Fits [none, some (.int .i64 5), none, none, none, some (.pointer (some ⟨gs, 0, none⟩)), none, some (.int .i64 m), some (.int .i64 y), none, none, none, none, none, none, none, none, none, none, none, none, none, none, none, none, none, none, none, none, none, none, none, none, none, none, none, none, none, none, none, none, none, none, none, none, none, none, none, none, none, none, none, none, none, none, none, none, none, none, none, none, none, none, none, none, none, none, none, none, none, none, none, none, none, none, none, none, none, none, none, none, none, none, none, none, none, none, none, none, none, none, none, none, none, none, none, none, none, none, none, none, none, none, none, none, none, none, none, none] lQ ∧ y = (i : Int) ∧ m = s.index + i ∧ i ≤ s.entries.length ∧ entOk s.index s.entries = entOk (s.index + i) (s.entries.drop i) ∧ Hp w0 w [] [((some gs, 57, [.int .i64 s.p.r, .int .i64 s.p.n, .slice A1 s.votes.length k1, .int .i64 s.index, .slice A2 s.image.length k2, .slice A3 s.entries.length k3]) : Ent)]) (s.entries.length) ?_ ?_
 exact ⟨0, _, _, rfl, (fn (fs (fn (fn (fn (fs (fn (fs (fs (fn (fn (fn (fn (fn (fn (fn (fn (fn (fn (fn (fn (fn (fn (fn (fn (fn (fn (fn (fn (fn (fn (fn (fn (fn (fn (fn (fn (fn (fn (fn (fn (fn (fn (fn (fn (fn (fn (fn (fn (fn (fn (fn (fn (fn (fn (fn (fn (fn (fn (fn (fn (fn (fn (fn (fn (fn (fn (fn (fn (fn (fn (fn (fn (fn (fn (fn (fn (fn (fn (fn (fn (fn (fn (fn (fn (fn (fn (fn (fn (fn (fn (fn (fn (fn (fn (fn (fn (fn (fn (fn (fn (fn (fn (fn (fn (fn (fn (fn (fn f0))))))))))))))))))))))))))))))))))))))))))))))))))))))))))))))))))))))))))))))))))))))))))))))))))))))))))))), rfl, by simp, Nat.zero_le _, by simp, H2⟩
 rintro nQ lQ w3 ⟨i, y, m, rfl, hfit, rfl, hm, hi, hinv, H3⟩
 obtain ⟨j, rfl⟩ := hfit.open
 refine cR e109 ?_
 clear hfit
 refine J1<|Rq<|Xm rfl<|Xf fl57_4 rfl<|OV (EL ty55 rfl (H3.cell (i := 0) rfl rfl))<|OV (ES Tryz.underlying55 rfl)<|cOp e109<|OT (ex_lss rfl rfl) (fun hp72 => ?_) (fun hp72 => ?_)
 have hil : i < s.entries.length := by omega
 obtain ⟨x, hx⟩ := get_of hil
 obtain ⟨p1, hp1, hR⟩ := he2.get hx
 obtain ⟨Ax, kx, rfl, hbx⟩ := hR
 obtain ⟨a1, ha1⟩ := hre.some_ (by omega)
 subst ha1
 refine Xr e109<|J3 rfl<|J6<|J1<|J7<|J1<|Rq<|Xf fl57_4 rfl<|OV (EL ty55 rfl (H3.cell (i := 0) rfl rfl))<|Xm rfl<|OV (EI Tryz.underlying55 ty41 rfl rfl rfl hil rfl)<|cOp e109<|OV (ex_fieldAddrA fl41_0 rfl)<|OV (EL ty3 rfl (((hre.to0 H3).elem hpe hp1) 0 _ rfl))<|Xm rfl<|OV (ex_add rfl rfl (IntWalk.i64_in _ (by omega)))<|cOp e109<|OT (ex_neq rfl rfl) (fun hp83 => ?_) (fun hp83 => ?_)
 refine Xm rfl<|OZ rfl<|cOp e109<|OZ rfl<|OZ rfl<|Xt rfl rfl<|Xm rfl<|cOp e109<|OZ rfl<|OZ rfl<|cOp e109<|OZ rfl<|OZ rfl<|cOp e109<|OZ rfl<|OZ rfl<|cOp e109<|OZ rfl<|OZ rfl<|Xt rfl rfl<|Xr e109<|J3 rfl<|Rq<|Xa rfl<|Xr e109<|J5<|BR<|rnd_ret<|BR<|FN1 rfl rfl<|⟨_, rfl, Ans.no (chk_f3 (by rw [hinv]; exact ent_no hx fun hh => by omega)), H3.noRows⟩
 refine Xm rfl<|OY rfl<|Xm rfl<|cOp e109<|OY rfl<|OV (ex_add rfl rfl (IntWalk.i64_in _ (by omega)))<|OY rfl<|OT (ex_gtr rfl rfl) (fun hp87 => ?_) (fun hp87 => ?_)
 refine Xu rfl rfl<|Xm rfl<|cOp e109<|OZ rfl<|OZ rfl<|cOp e109<|OZ rfl<|OZ rfl<|cOp e109<|OZ rfl<|OZ rfl<|cOp e109<|OZ rfl<|OZ rfl<|Xt rfl rfl<|Xr e109<|J3 rfl<|Rq<|Xa rfl<|Xr e109<|J5<|BR<|rnd_ret<|BR<|FN1 rfl rfl<|⟨_, rfl, Ans.no (chk_f3 (by rw [hinv]; exact ent_no hx fun hh => by omega)), H3.noRows⟩
 refine Xu rfl rfl<|Xm rfl<|cOp e109<|OY rfl<|Xf fl57_4 rfl<|OY rfl<|OV (EL ty55 rfl (H3.cell (i := 0) rfl rfl))<|cOp e109<|OY rfl<|Xm rfl<|OY rfl<|OV (EI Tryz.underlying55 ty41 rfl rfl rfl hil rfl)<|cOp e109<|OY rfl<|OV (ex_fieldAddrA fl41_1 rfl)<|OY rfl<|OV (EL ty37 rfl (((hre.to0 H3).elem hpe hp1) 1 _ rfl))<|cOp e109<|OY rfl<|OV (ES Tryz.underlying37 rfl)<|OY rfl<|OT (ex_gtr rfl rfl) (fun hp97 => ?_) (fun hp97 => ?_)
 refine Xu rfl rfl<|Xr e109<|J3 rfl<|Rq<|Xa rfl<|Xr e109<|J5<|BR<|rnd_ret<|BR<|FN1 rfl rfl<|⟨_, rfl, Ans.no (chk_f3 (by rw [hinv]; exact ent_no hx fun hh => by omega)), H3.noRows⟩
 refine Xu rfl rfl<|Xr e109<|J4 rfl<|J6<|J2<|Xm rfl<|OV (ex_add rfl rfl (IntWalk.i64_in _ (by omega)))<|Xa rfl<|Xr e109<|run_nil (blk_normal ?_)
 refine J2<|Xm rfl<|OV (ex_add rfl rfl (IntWalk.i64_in _ (by omega)))<|Xa rfl<|Xr e109<|run_nil (rnd_normal ?_)
 have hgo := ent_go (m := s.index + i) hx ⟨by omega, by omega, by omega⟩
 exact ⟨s.entries.length - (i + 1), by omega, i + 1, _, _, rfl, (fn (fs (fn (fn (fn (fs (fn (fs (fs (fn (fn (fn (fn (fn (fn (fn (fn (fn (fn (fn (fn (fn (fn (fn (fn (fn (fn (fn (fn (fn (fn (fn (fn (fn (fn (fn (fn (fn (fn (fn (fn (fn (fn (fn (fn (fn (fn (fn (fn (fn (fn (fn (fn (fn (fn (fn (fn (fn (fn (fn (fn (fn (fn (fn (fn (fn (fn (fn (fn (fn (fn (fn (fn (fn (fn (fn (fn (fn (fn (fn (fn (fn (fn (fn (fn (fn (fn (fn (fn (fn (fn (fn (fn (fn (fn (fn (fn (fn (fn (fn (fn (fn (fn (fn (fn (fn (fn (fn (fn f0))))))))))))))))))))))))))))))))))))))))))))))))))))))))))))))))))))))))))))))))))))))))))))))))))))))))))))), by omega, by omega, by omega, by rw [hinv, hgo]; congr 1; omega, H3.pick [0] (by decide)⟩
 obtain rfl : i = s.entries.length := by omega
 have hent := hinv.trans ent_end
 subst hm
 refine Xr e109<|J4 rfl<|J8<|rnd_exit<|blk_exit<|J1<|Rq<|Xf fl57_0 rfl<|OV (EN ty36 rfl (vs := [.int .i64 s.p.r, .int .i64 s.p.n]) rfl (H3.cellsR (i := 0) rfl rfl))<|Xm rfl<|OV (ex_add rfl rfl (IntWalk.i64_in _ (by omega)))<|cOp e109<|Xf fl57_1 rfl<|OV (EL ty54 rfl (H3.cell (i := 0) rfl rfl))<|OQ (EC gf47 rfl) (load_r s.p (s.index + s.entries.length + 1) A1 k1 s.votes ok _ (hv1.toV H3 k0) (by omega) (by omega)) ?_
 rintro _ w4 ⟨a, rfl, hyes, hno, Hd⟩
 have H4 := H3.callN Hd
 rw [← chk_ld (by omega) (by omega) hent] at hyes hno
 refine OT (ex_eql_nil_ptr Tryz.underlying90 rfl) (fun hp108 => ?_) (fun hp108 => ?_)
 refine Xr e109<|J3 rfl<|Rq<|Xa rfl<|Xr e109<|J5<|FN1 rfl rfl<|⟨_, rfl, Ans.no (by cases hc : chk s with | false => rfl | true => obtain ⟨x, hx⟩ := hyes hc; rw [hx] at hp108; cases hp108), H4.noRows⟩
 refine Xr e109<|J4 rfl<|J6<|Rq<|Xa rfl<|Xr e109<|J5<|FN1 rfl rfl<|⟨_, rfl, Ans.ok (by cases hc : chk s with | true => rfl | false => exact absurd (hno hc) hp108), H4.noRows⟩
 have H2 := H1.callN Hd
 refine OY rfl<|Xn rfl<|Xt rfl rfl<|Xm rfl<|cOp e109<|OZ rfl<|OZ rfl<|cOp e109<|OZ rfl<|Xt rfl rfl<|Xm rfl<|cOp e109<|OZ rfl<|OZ rfl<|cOp e109<|OZ rfl<|Xt rfl rfl<|Xm rfl<|cOp e109<|OZ rfl<|OZ rfl<|cOp e109<|OZ rfl<|OZ rfl<|cOp e109<|OZ rfl<|OZ rfl<|cOp e109<|OZ rfl<|OZ rfl<|cOp e109<|OZ rfl<|Xt rfl rfl<|Xm rfl<|cOp e109<|OZ rfl<|OZ rfl<|cOp e109<|OZ rfl<|OZ rfl ?_
 refine Xt rfl rfl<|Xr e109<|J3 rfl<|Rq<|Xa rfl<|Xr e109<|J5<|FN1 rfl rfl<|⟨_, rfl, Ans.no (chk_f1 (by omega)), H2.noRows⟩
 refine Xm rfl<|cOp e109<|OZ rfl<|OZ rfl<|cOp e109<|OZ rfl<|OZ rfl<|cOp e109<|OZ rfl<|Xu rfl rfl<|Xm rfl<|cOp e109<|OY rfl<|Xf fl57_2 rfl<|OY rfl<|OV (EL ty3 rfl (H1.cell (i := 0) rfl rfl))<|cOp e109<|OY rfl<|OT (ex_lss rfl rfl) (fun hp42 => ?_) (fun hp42 => ?_)
 refine Xu rfl rfl<|Xm rfl<|cOp e109<|OZ rfl<|OZ rfl<|cOp e109<|OZ rfl<|Xt rfl rfl<|Xm rfl<|cOp e109<|OZ rfl<|OZ rfl<|cOp e109<|OZ rfl<|OZ rfl<|cOp e109<|OZ rfl<|OZ rfl<|cOp e109<|OZ rfl<|OZ rfl<|cOp e109<|OZ rfl<|Xt rfl rfl<|Xm rfl<|cOp e109<|OZ rfl<|OZ rfl<|cOp e109<|OZ rfl<|OZ rfl<|Xt rfl rfl<|Xr e109<|J3 rfl<|Rq<|Xa rfl<|Xr e109 ?_
 refine J5<|FN1 rfl rfl<|⟨_, rfl, Ans.no (chk_f2 (by omega)), H1.noRows⟩
 refine Xu rfl rfl<|Xm rfl<|cOp e109<|OY rfl<|Xf fl57_2 rfl<|OY rfl<|OV (EL ty3 rfl (H1.cell (i := 0) rfl rfl))<|cOp e109<|OY rfl<|OT (ex_gtr rfl rfl) (fun hp47 => ?_) (fun hp47 => ?_)
 refine Xu rfl rfl<|Xm rfl<|cOp e109<|OZ rfl<|OZ rfl<|cOp e109<|OZ rfl<|OZ rfl<|cOp e109<|OZ rfl<|OZ rfl<|cOp e109<|OZ rfl<|OZ rfl<|cOp e109<|OZ rfl<|Xt rfl rfl<|Xm rfl<|cOp e109<|OZ rfl<|OZ rfl<|cOp e109<|OZ rfl<|OZ rfl<|Xt rfl rfl<|Xr e109<|J3 rfl<|Rq<|Xa rfl<|Xr e109<|J5<|FN1 rfl rfl<|⟨_, rfl, Ans.no (chk_f2 (by omega)), H1.noRows⟩
 refine Xu rfl rfl<|Xm rfl<|cOp e109<|OY rfl<|Xf fl57_2 rfl<|OY rfl<|OV (EL ty3 rfl (H1.cell (i := 0) rfl rfl))<|cOp e109<|OY rfl<|OT (ex_eql rfl rfl) (fun hp52 => ?_) (fun hp52 => ?_)
 refine OY rfl<|Xm rfl<|OY rfl<|Xf fl57_3 rfl<|cOp e109<|OY rfl<|OV (EL ty37 rfl (H1.cell (i := 0) rfl rfl))<|OY rfl<|OV (ES Tryz.underlying37 rfl)<|cOp e109<|OY rfl<|OT (ex_gtr rfl rfl) (fun hp57 => ?_) (fun hp57 => ?_)
 refine OY rfl<|Xt rfl rfl<|Xu rfl rfl<|Xm rfl<|cOp e109<|OZ rfl<|OZ rfl<|cOp e109<|OZ rfl<|OZ rfl<|Xt rfl rfl<|Xr e109<|J3 rfl<|Rq<|Xa rfl<|Xr e109<|J5<|FN1 rfl rfl<|⟨_, rfl, Ans.no (chk_f2 (by omega)), H1.noRows⟩
 refine OY rfl<|Xt rfl rfl<|Xu rfl rfl<|Xm rfl<|cOp e109<|OY rfl<|Xf fl57_3 rfl<|OY rfl<|OV (EL ty37 rfl (H1.cell (i := 0) rfl rfl))<|cOp e109<|OY rfl<|OV (ES Tryz.underlying37 rfl)<|OY rfl<|OT (ex_gtr rfl rfl) (fun hp64 => ?_) (fun hp64 => ?_)
 refine Xu rfl rfl<|Xr e109<|J3 rfl<|Rq<|Xa rfl<|Xr e109<|J5<|FN1 rfl rfl<|⟨_, rfl, Ans.no (chk_f2 (by omega)), H1.noRows⟩
 refine Xu rfl rfl<|Xr e109<|J4 rfl<|J6<|Rq<|Xf fl57_2 rfl<|OV (EL ty3 rfl (H1.cell (i := 0) rfl rfl))<|Xa rfl<|Xr e109<|J1<|Rq<|Xa rfl<|Xr e109<|J7<|run_loop (fun nQ lQ w => ∃ (i : Nat) (y m : Int), s.entries.length - i = nQ ∧ Fits [none, some (.int .i64 5), none, none, none, some (.pointer (some ⟨gs, 0, none⟩)), none, some (.int .i64 m), some (.int .i64 y), none, none, none, none, none, none, none, none, none, none, none, none, none, none, none, none, none, none, none, none, none, none, none, none, none, none, none, none, none, none, none, none, none, none, none, none, none, none, none, none, none, none, none, none, none, none, none, none, none, none, none, none, none, none, none, none, none, none, none, none, none, none, none, none, none, none, none, none, none, none, none, none, none, none, none, none, none, none, none, none, none, none, none, none, none, none, none, none, none, none, none, none, none, none, none, none, none, none, none, none] lQ ∧ y = (i : Int) ∧ m = s.index + i ∧ i ≤ s.entries.length ∧ entOk s.index s.entries = entOk (s.index + i) (s.entries.drop i) ∧ Hp w0 w [] [((some gs, 57, [.int .i64 s.p.r, .int .i64 s.p.n, .slice A1 s.votes.length k1, .int .i64 s.index, .slice A2 s.image.length k2, .slice A3 s.entries.length k3]) : Ent)]) (s.entries.length) ?_ ?_
 exact ⟨0, _, _, rfl, (fn (fs (fn (fn (fn (fs (fn (fs (fs (fn (fn (fn (fn (fn (fn (fn (fn (fn (fn (fn (fn (fn (fn (fn (fn (fn (fn (fn (fn (fn (fn (fn (fn (fn (fn (fn (fn (fn (fn (fn (fn (fn (fn (fn (fn (fn (fn (fn (fn (fn (fn (fn (fn (fn (fn (fn (fn (fn (fn (fn (fn (fn (fn (fn (fn (fn (fn (fn (fn (fn (fn (fn (fn (fn (fn (fn (fn (fn (fn (fn (fn (fn (fn (fn (fn (fn (fn (fn (fn (fn (fn (fn (fn (fn (fn (fn (fn (fn (fn (fn (fn (fn (fn (fn (fn (fn (fn (fn (fn f0))))))))))))))))))))))))))))))))))))))))))))))))))))))))))))))))))))))))))))))))))))))))))))))))))))))))))))), rfl, by simp, Nat.zero_le _, by simp, H1⟩
 rintro nQ lQ w2 ⟨i, y, m, rfl, hfit, rfl, hm, hi, hinv, H2⟩
 obtain ⟨j, rfl⟩ := hfit.open
 refine cR e109 ?_
 clear hfit
 refine J1<|Rq<|Xm rfl<|Xf fl57_4 rfl<|OV (EL ty55 rfl (H2.cell (i := 0) rfl rfl))<|OV (ES Tryz.underlying55 rfl)<|cOp e109<|OT (ex_lss rfl rfl) (fun hp72 => ?_) (fun hp72 => ?_)
 have hil : i < s.entries.length := by omega
 obtain ⟨x, hx⟩ := get_of hil
 obtain ⟨p1, hp1, hR⟩ := he2.get hx
 obtain ⟨Ax, kx, rfl, hbx⟩ := hR
 obtain ⟨a1, ha1⟩ := hre.some_ (by omega)
 subst ha1
 refine Xr e109<|J3 rfl<|J6<|J1<|J7<|J1<|Rq<|Xf fl57_4 rfl<|OV (EL ty55 rfl (H2.cell (i := 0) rfl rfl))<|Xm rfl<|OV (EI Tryz.underlying55 ty41 rfl rfl rfl hil rfl)<|cOp e109<|OV (ex_fieldAddrA fl41_0 rfl)<|OV (EL ty3 rfl (((hre.to0 H2).elem hpe hp1) 0 _ rfl))<|Xm rfl<|OV (ex_add rfl rfl (IntWalk.i64_in _ (by omega)))<|cOp e109<|OT (ex_neq rfl rfl) (fun hp83 => ?_) (fun hp83 => ?_)
 refine Xm rfl<|OZ rfl<|cOp e109<|OZ rfl<|OZ rfl<|Xt rfl rfl<|Xm rfl<|cOp e109<|OZ rfl<|OZ rfl<|cOp e109<|OZ rfl<|OZ rfl<|cOp e109<|OZ rfl<|OZ rfl<|cOp e109<|OZ rfl<|OZ rfl<|Xt rfl rfl<|Xr e109<|J3 rfl<|Rq<|Xa rfl<|Xr e109<|J5<|BR<|rnd_ret<|BR<|FN1 rfl rfl<|⟨_, rfl, Ans.no (chk_f3 (by rw [hinv]; exact ent_no hx fun hh => by omega)), H2.noRows⟩
 refine Xm rfl<|OY rfl<|Xm rfl<|cOp e109<|OY rfl<|OV (ex_add rfl rfl (IntWalk.i64_in _ (by omega)))<|OY rfl<|OT (ex_gtr rfl rfl) (fun hp87 => ?_) (fun hp87 => ?_)
 refine Xu rfl rfl<|Xm rfl<|cOp e109<|OZ rfl<|OZ rfl<|cOp e109<|OZ rfl<|OZ rfl<|cOp e109<|OZ rfl<|OZ rfl<|cOp e109<|OZ rfl<|OZ rfl<|Xt rfl rfl<|Xr e109<|J3 rfl<|Rq<|Xa rfl<|Xr e109<|J5<|BR<|rnd_ret<|BR<|FN1 rfl rfl<|⟨_, rfl, Ans.no (chk_f3 (by rw [hinv]; exact ent_no hx fun hh => by omega)), H2.noRows⟩
 refine Xu rfl rfl<|Xm rfl<|cOp e109<|OY rfl<|Xf fl57_4 rfl<|OY rfl<|OV (EL ty55 rfl (H2.cell (i := 0) rfl rfl))<|cOp e109<|OY rfl<|Xm rfl<|OY rfl<|OV (EI Tryz.underlying55 ty41 rfl rfl rfl hil rfl)<|cOp e109<|OY rfl<|OV (ex_fieldAddrA fl41_1 rfl)<|OY rfl<|OV (EL ty37 rfl (((hre.to0 H2).elem hpe hp1) 1 _ rfl))<|cOp e109<|OY rfl<|OV (ES Tryz.underlying37 rfl)<|OY rfl<|OT (ex_gtr rfl rfl) (fun hp97 => ?_) (fun hp97 => ?_)
 refine Xu rfl rfl<|Xr e109<|J3 rfl<|Rq<|Xa rfl<|Xr e109<|J5<|BR<|rnd_ret<|BR<|FN1 rfl rfl<|⟨_, rfl, Ans.no (chk_f3 (by rw [hinv]; exact ent_no hx fun hh => by omega)), H2.noRows⟩
 refine Xu rfl rfl<|Xr e109<|J4 rfl<|J6<|J2<|Xm rfl<|OV (ex_add rfl rfl (IntWalk.i64_in _ (by omega)))<|Xa rfl<|Xr e109<|run_nil (blk_normal ?_)
 refine J2<|Xm rfl<|OV (ex_add rfl rfl (IntWalk.i64_in _ (by omega)))<|Xa rfl<|Xr e109<|run_nil (rnd_normal ?_)
 have hgo := ent_go (m := s.index + i) hx ⟨by omega, by omega, by omega⟩
 exact ⟨s.entries.length - (i + 1), by omega, i + 1, _, _, rfl, (fn (fs (fn (fn (fn (fs (fn (fs (fs (fn (fn (fn (fn (fn (fn (fn (fn (fn (fn (fn (fn (fn (fn (fn (fn (fn (fn (fn (fn (fn (fn (fn (fn (fn (fn (fn (fn (fn (fn (fn (fn (fn (fn (fn (fn (fn (fn (fn (fn (fn (fn (fn (fn (fn (fn (fn (fn (fn (fn (fn (fn (fn (fn (fn (fn (fn (fn (fn (fn (fn (fn (fn (fn (fn (fn (fn (fn (fn (fn (fn (fn (fn (fn (fn (fn (fn (fn (fn (fn (fn (fn (fn (fn (fn (fn (fn (fn (fn (fn (fn (fn (fn (fn (fn (fn (fn (fn (fn (fn f0))))))))))))))))))))))))))))))))))))))))))))))))))))))))))))))))))))))))))))))))))))))))))))))))))))))))))))), by omega, by omega, by omega, by rw [hinv, hgo]; congr 1; omega, H2.pick [0] (by decide)⟩
 obtain rfl : i = s.entries.length := by omega
 have hent := hinv.trans ent_end
 subst hm
 refine Xr e109<|J4 rfl<|J8<|rnd_exit<|blk_exit<|J1<|Rq<|Xf fl57_0 rfl<|OV (EN ty36 rfl (vs := [.int .i64 s.p.r, .int .i64 s.p.n]) rfl (H2.cellsR (i := 0) rfl rfl))<|Xm rfl<|OV (ex_add rfl rfl (IntWalk.i64_in _ (by omega)))<|cOp e109<|Xf fl57_1 rfl<|OV (EL ty54 rfl (H2.cell (i := 0) rfl rfl))<|OQ (EC gf47 rfl) (load_r s.p (s.index + s.entries.length + 1) A1 k1 s.votes ok _ (hv1.toV H2 k0) (by omega) (by omega)) ?_
 rintro _ w3 ⟨a, rfl, hyes, hno, Hd⟩
 have H3 := H2.callN Hd
 rw [← chk_ld (by omega) (by omega) hent] at hyes hno
 refine OT (ex_eql_nil_ptr Tryz.underlying90 rfl) (fun hp108 => ?_) (fun hp108 => ?_)
 refine Xr e109<|J3 rfl<|Rq<|Xa rfl<|Xr e109<|J5<|FN1 rfl rfl<|⟨_, rfl, Ans.no (by cases hc : chk s with | false => rfl | true => obtain ⟨x, hx⟩ := hyes hc; rw [hx] at hp108; cases hp108), H3.noRows⟩
 refine Xr e109<|J4 rfl<|J6<|Rq<|Xa rfl<|Xr e109<|J5<|FN1 rfl rfl<|⟨_, rfl, Ans.ok (by cases hc : chk s with | true => rfl | false => exact absurd (hno hc) hp108), H3.noRows⟩
 refine OY rfl<|Xm rfl<|OZ rfl<|cOp e109<|OZ rfl<|OZ rfl<|cOp e109<|OZ rfl<|OY rfl<|Xu rfl rfl<|Xu rfl rfl<|Xm rfl<|cOp e109<|OY rfl<|Xf fl57_3 rfl<|OY rfl<|OV (EL ty37 rfl (H1.cell (i := 0) rfl rfl))<|cOp e109<|OY rfl<|OV (ES Tryz.underlying37 rfl)<|OY rfl<|OT (ex_gtr rfl rfl) (fun hp64 => ?_) (fun hp64 => ?_)
 refine Xu rfl rfl<|Xr e109<|J3 rfl<|Rq<|Xa rfl<|Xr e109<|J5<|FN1 rfl rfl<|⟨_, rfl, Ans.no (chk_f2 (by omega)), H1.noRows⟩
 refine Xu rfl rfl<|Xr e109<|J4 rfl<|J6<|Rq<|Xf fl57_2 rfl<|OV (EL ty3 rfl (H1.cell (i := 0) rfl rfl))<|Xa rfl<|Xr e109<|J1<|Rq<|Xa rfl<|Xr e109<|J7<|run_loop (fun nQ lQ w => ∃ (i : Nat) (y m : Int), s.entries.length - i = nQ ∧ Fits [none, some (.int .i64 5), none, none, none, some (.pointer (some ⟨gs, 0, none⟩)), none, some (.int .i64 m), some (.int .i64 y), none, none, none, none, none, none, none, none, none, none, none, none, none, none, none, none, none, none, none, none, none, none, none, none, none, none, none, none, none, none, none, none, none, none, none, none, none, none, none, none, none, none, none, none, none, none, none, none, none, none, none, none, none, none, none, none, none, none, none, none, none, none, none, none, none, none, none, none, none, none, none, none, none, none, none, none, none, none, none, none, none, none, none, none, none, none, none, none, none, none, none, none, none, none, none, none, none, none, none, none] lQ ∧ y = (i : Int) ∧ m = s.index + i ∧ i ≤ s.entries.length ∧ entOk s.index s.entries = entOk (s.index + i) (s.entries.drop i) ∧ Hp w0 w [] [((some gs, 57, [.int .i64 s.p.r, .int .i64 s.p.n, .slice A1 s.votes.length k1, .int .i64 s.index, .slice A2 s.image.length k2, .slice A3 s.entries.length k3]) : Ent)]) (s.entries.length) ?_ ?_
 exact ⟨0, _, _, rfl, (fn (fs (fn (fn (fn (fs (fn (fs (fs (fn (fn (fn (fn (fn (fn (fn (fn (fn (fn (fn (fn (fn (fn (fn (fn (fn (fn (fn (fn (fn (fn (fn (fn (fn (fn (fn (fn (fn (fn (fn (fn (fn (fn (fn (fn (fn (fn (fn (fn (fn (fn (fn (fn (fn (fn (fn (fn (fn (fn (fn (fn (fn (fn (fn (fn (fn (fn (fn (fn (fn (fn (fn (fn (fn (fn (fn (fn (fn (fn (fn (fn (fn (fn (fn (fn (fn (fn (fn (fn (fn (fn (fn (fn (fn (fn (fn (fn (fn (fn (fn (fn (fn (fn (fn (fn (fn (fn (fn (fn f0))))))))))))))))))))))))))))))))))))))))))))))))))))))))))))))))))))))))))))))))))))))))))))))))))))))))))))), rfl, by simp, Nat.zero_le _, by simp, H1⟩
 rintro nQ lQ w2 ⟨i, y, m, rfl, hfit, rfl, hm, hi, hinv, H2⟩
 obtain ⟨j, rfl⟩ := hfit.open
 refine cR e109 ?_
 clear hfit
 refine J1<|Rq<|Xm rfl<|Xf fl57_4 rfl<|OV (EL ty55 rfl (H2.cell (i := 0) rfl rfl))<|OV (ES Tryz.underlying55 rfl)<|cOp e109<|OT (ex_lss rfl rfl) (fun hp72 => ?_) (fun hp72 => ?_)
 have hil : i < s.entries.length := by omega
 obtain ⟨x, hx⟩ := get_of hil
 obtain ⟨p1, hp1, hR⟩ := he2.get hx
 obtain ⟨Ax, kx, rfl, hbx⟩ := hR
 obtain ⟨a1, ha1⟩ := hre.some_ (by omega)
 subst ha1
 refine Xr e109<|J3 rfl<|J6<|J1<|J7<|J1<|Rq<|Xf fl57_4 rfl<|OV (EL ty55 rfl (H2.cell (i := 0) rfl rfl))<|Xm rfl<|OV (EI Tryz.underlying55 ty41 rfl rfl rfl hil rfl)<|cOp e109<|OV (ex_fieldAddrA fl41_0 rfl)<|OV (EL ty3 rfl (((hre.to0 H2).elem hpe hp1) 0 _ rfl))<|Xm rfl<|OV (ex_add rfl rfl (IntWalk.i64_in _ (by omega)))<|cOp e109<|OT (ex_neq rfl rfl) (fun hp83 => ?_) (fun hp83 => ?_)
 refine Xm rfl<|OZ rfl<|cOp e109<|OZ rfl<|OZ rfl<|Xt rfl rfl<|Xm rfl<|cOp e109<|OZ rfl<|OZ rfl<|cOp e109<|OZ rfl<|OZ rfl<|cOp e109<|OZ rfl<|OZ rfl<|cOp e109<|OZ rfl<|OZ rfl<|Xt rfl rfl<|Xr e109<|J3 rfl<|Rq<|Xa rfl<|Xr e109<|J5<|BR<|rnd_ret<|BR<|FN1 rfl rfl<|⟨_, rfl, Ans.no (chk_f3 (by rw [hinv]; exact ent_no hx fun hh => by omega)), H2.noRows⟩
 refine Xm rfl<|OY rfl<|Xm rfl<|cOp e109<|OY rfl<|OV (ex_add rfl rfl (IntWalk.i64_in _ (by omega)))<|OY rfl<|OT (ex_gtr rfl rfl) (fun hp87 => ?_) (fun hp87 => ?_)
 refine Xu rfl rfl<|Xm rfl<|cOp e109<|OZ rfl<|OZ rfl<|cOp e109<|OZ rfl<|OZ rfl<|cOp e109<|OZ rfl<|OZ rfl<|cOp e109<|OZ rfl<|OZ rfl<|Xt rfl rfl<|Xr e109<|J3 rfl<|Rq<|Xa rfl<|Xr e109<|J5<|BR<|rnd_ret<|BR<|FN1 rfl rfl<|⟨_, rfl, Ans.no (chk_f3 (by rw [hinv]; exact ent_no hx fun hh => by omega)), H2.noRows⟩
 refine Xu rfl rfl<|Xm rfl<|cOp e109<|OY rfl<|Xf fl57_4 rfl<|OY rfl<|OV (EL ty55 rfl (H2.cell (i := 0) rfl rfl))<|cOp e109<|OY rfl<|Xm rfl<|OY rfl<|OV (EI Tryz.underlying55 ty41 rfl rfl rfl hil rfl)<|cOp e109<|OY rfl<|OV (ex_fieldAddrA fl41_1 rfl)<|OY rfl<|OV (EL ty37 rfl (((hre.to0 H2).elem hpe hp1) 1 _ rfl))<|cOp e109<|OY rfl<|OV (ES Tryz.underlying37 rfl)<|OY rfl<|OT (ex_gtr rfl rfl) (fun hp97 => ?_) (fun hp97 => ?_)
 refine Xu rfl rfl<|Xr e109<|J3 rfl<|Rq<|Xa rfl<|Xr e109<|J5<|BR<|rnd_ret<|BR<|FN1 rfl rfl<|⟨_, rfl, Ans.no (chk_f3 (by rw [hinv]; exact ent_no hx fun hh => by omega)), H2.noRows⟩
 refine Xu rfl rfl<|Xr e109<|J4 rfl<|J6<|J2<|Xm rfl<|OV (ex_add rfl rfl (IntWalk.i64_in _ (by omega)))<|Xa rfl<|Xr e109<|run_nil (blk_normal ?_)
 refine J2<|Xm rfl<|OV (ex_add rfl rfl (IntWalk.i64_in _ (by omega)))<|Xa rfl<|Xr e109<|run_nil (rnd_normal ?_)
 have hgo := ent_go (m := s.index + i) hx ⟨by omega, by omega, by omega⟩
 exact ⟨s.entries.length - (i + 1), by omega, i + 1, _, _, rfl, (fn (fs (fn (fn (fn (fs (fn (fs (fs (fn (fn (fn (fn (fn (fn (fn (fn (fn (fn (fn (fn (fn (fn (fn (fn (fn (fn (fn (fn (fn (fn (fn (fn (fn (fn (fn (fn (fn (fn (fn (fn (fn (fn (fn (fn (fn (fn (fn (fn (fn (fn (fn (fn (fn (fn (fn (fn (fn (fn (fn (fn (fn (fn (fn (fn (fn (fn (fn (fn (fn (fn (fn (fn (fn (fn (fn (fn (fn (fn (fn (fn (fn (fn (fn (fn (fn (fn (fn (fn (fn (fn (fn (fn (fn (fn (fn (fn (fn (fn (fn (fn (fn (fn (fn (fn (fn (fn (fn (fn f0))))))))))))))))))))))))))))))))))))))))))))))))))))))))))))))))))))))))))))))))))))))))))))))))))))))))))))), by omega, by omega, by omega, by rw [hinv, hgo]; congr 1; omega, H2.pick [0] (by decide)⟩
 obtain rfl : i = s.entries.length := by omega
 have hent := hinv.trans ent_end
 subst hm
 refine Xr e109<|J4 rfl<|J8<|rnd_exit<|blk_exit<|J1<|Rq<|Xf fl57_0 rfl<|OV (EN ty36 rfl (vs := [.int .i64 s.p.r, .int .i64 s.p.n]) rfl (H2.cellsR (i := 0) rfl rfl))<|Xm rfl<|OV (ex_add rfl rfl (IntWalk.i64_in _ (by omega)))<|cOp e109<|Xf fl57_1 rfl<|OV (EL ty54 rfl (H2.cell (i := 0) rfl rfl))<|OQ (EC gf47 rfl) (load_r s.p (s.index + s.entries.length + 1) A1 k1 s.votes ok _ (hv1.toV H2 k0) (by omega) (by omega)) ?_
 rintro _ w3 ⟨a, rfl, hyes, hno, Hd⟩
 have H3 := H2.callN Hd
 rw [← chk_ld (by omega) (by omega) hent] at hyes hno
 refine OT (ex_eql_nil_ptr Tryz.underlying90 rfl) (fun hp108 => ?_) (fun hp108 => ?_)
 refine Xr e109<|J3 rfl<|Rq<|Xa rfl<|Xr e109<|J5<|FN1 rfl rfl<|⟨_, rfl, Ans.no (by cases hc : chk s with | false => rfl | true => obtain ⟨x, hx⟩ := hyes hc; rw [hx] at hp108; cases hp108), H3.noRows⟩
 refine Xr e109<|J4 rfl<|J6<|Rq<|Xa rfl<|Xr e109<|J5<|FN1 rfl rfl<|⟨_, rfl, Ans.ok (by cases hc : chk s with | true => rfl | false => exact absurd (hno hc) hp108), H3.noRows⟩
end Go.Proofs.YtbninklfoogmdaaGreat
/- Walks of layer 2, printed by wip/gen/codec.py. -/
namespace Go.Proofs.YtbninklfoogmdaaGreat
open Go Go.RowKit
set_option linter.unusedVariables false
attribute [local irreducible] Still Ops Does Cd
set_option maxRecDepth 100000 in
set_option maxHeartbeats 32000000 in
theorem into_r (b : Bo) (A1 : Option Addr) (k1 : Nat) (A2 : Option Addr) (k2 : Nat) (A3 : Option Addr) (k3 : Nat) (n : Nt) (B1 : Option Addr) (j1 : Nat) (B2 : Option Addr) (j2 : Nat) (ok : Nat → Prop) (N : Nat) (w0 : World) (hb1 : Sl (SvR w0 ok) 6 w0 ok A1 b.groups) (hb2 : Sl RtR 4 w0 ok A2 b.rights) (hb3 : Sl MkR 7 w0 ok A3 b.last) (hbv : Bs w0 ok B1 n.vote.val) (hbe : Bs w0 ok B2 n.entry.val) (hg : Good b N) (hN : N ≤ 900000000000) : Does Tryz.prog 9 #[.agg [.slice A1 b.groups.length k1, .slice A2 b.rights.length k2, .slice A3 b.last.length k3].toArray, .agg [.int .i64 n.kind, .int .i64 n.group, .int .i64 n.b.r, .int .i64 n.b.n, .int .i64 n.vote.slot, .int .i64 n.vote.b.r, .int .i64 n.vote.b.n, .slice B1 n.vote.val.length j1, .int .i64 n.entry.slot, .slice B2 n.entry.val.length j2, .int .i64 n.right.g, strV n.right.key, .int .i64 n.right.lease, .int .i64 n.right.net, .int .i64 n.client, .int .i64 n.seq].toArray] w0 (fun r w' => ∃ X1 m1 x1 X2 m2 x2 X3 m3 x3 f, r = .tuple #[.agg [.slice X1 m1 x1, .slice X2 m2 x2, .slice X3 m3 x3].toArray, .bool f] ∧ (∀ b', b.into n = some b' → f = true ∧ BoR w' (up ok w0.heap.size) [.slice X1 m1 x1, .slice X2 m2 x2, .slice X3 m3 x3] b') ∧ (b.into n = none → f = false) ∧ Hp w0 w' [] []) := by
 refine does_of Tryz.func9 Tryz.ntmps9 rfl<|cR e107 ?_
 have H := Hp.refl w0
 obtain ⟨pg, hpg, hrg, hag, h2g⟩ := id hb1
 have hgl := h2g.len
 have h8 := hg.eight
 have hong := h2g.ones fun _ _ h => h.ones
 refine Rq<|ops_box rfl rfl H<|fun w1 gb H1 _=>ops_box rfl rfl H1<|fun w2 gn H2 _=>OA ty27 H2<|fun w3 gr H3 _=>Xa rfl<|Xr e107<|J1<|Rq<|Xf fl45_0 rfl<|OV (EL ty3 rfl (H3.cell (i := 1) rfl rfl))<|OT (ex_eql rfl rfl) (fun hp14 => ?_) (fun hp14 => ?_)
 refine Xr e107<|J3 rfl<|Rq<|Xf fl27_1 rfl<|OV (EL ty24 rfl (H3.cell (i := 0) rfl rfl))<|Xf fl45_5 rfl<|OV (EN ty43 rfl (vs := [.int .i64 n.right.g, strV n.right.key, .int .i64 n.right.lease, .int .i64 n.right.net]) rfl (H3.cellsR (i := 1) rfl rfl))<|cOp e107 ?_
 have hnp9 := Hp.fresh H3
 have hsz9 := H3.size
 refine OQ (EC gf20 rfl) (put16 n.right A2 k2 b.rights ok _ (hb2.toR H3 k0) (by have := hg.few; omega) hg.rts) ?_
 rintro r w4 ⟨hyes, hno, Hd⟩
 have HP := H3.callN Hd
 have H4 := HP.here
 have hszP := HP.size
 by_cases hmay : mayR n.right
 obtain ⟨A9, k9, rfl, hA9⟩ := hyes hmay
 refine Xm rfl<|Xe rfl rfl<|Xe rfl rfl<|Xa rfl<|cOp e107<|Xa rfl<|Xr e107<|J1<|Rq<|Xm rfl<|OT0 (ex_neq rfl rfl) (by decide)<|Xr e107<|J4 rfl<|J6<|Rq<|Xm rfl<|Xf fl27_1 rfl<|OW ty24 H4 0 rfl rfl rfl rfl (by first | (simp; done) | simp [putAt]) rfl<|fun w5 H5=>Xr e107<|Rq<|Xf fl27_2 rfl<|OV (EL ty25 rfl (H5.cell (i := 0) rfl rfl))<|Xf fl45_6 rfl<|OV (EL ty3 rfl (H5.cell (i := 1) rfl rfl))<|cOp e107<|OQ (EC gf21 rfl) (find14 A3 k3 b.last n.client ok _ (hb3.toM (HP.all H5) k0) hg.mks) ?_
 rintro r w6 ⟨hyes2, hno2, Hd⟩
 have H6 := H5.callN Hd
 cases hfm : findMk b.last n.client
 obtain rfl := hno2 hfm
 refine Xm rfl<|Xe rfl rfl<|Xe rfl rfl<|OA ty63 H6<|fun w7 gz H7 _=>cOp e107<|OS ty63 H7 3 (vs := [.int .i64 (⟨0, 0⟩ : Mk).client, .int .i64 (⟨0, 0⟩ : Mk).seq, .bool false, .int .i64 0, .int .i64 0, .int .i64 0, .int .i64 0]) rfl rfl rfl rfl rfl (Nat.le_refl 7) rfl<|fun w8 H8=>Xa rfl<|Xr e107<|J1<|Rq<|Xf fl45_6 rfl<|OV (EL ty3 rfl (H8.cell (i := 1) rfl rfl))<|OX (EC gf22 rfl) (client14 _ _) (fun hp38 w9 Hd => ?_) (fun hp38 w9 Hd => ?_)
 have H9 := H8.callN Hd
 refine Xm rfl<|cOp e107<|OY rfl<|Xf fl45_7 rfl<|OY rfl<|OV (EL ty3 rfl (H9.cell (i := 1) rfl rfl))<|cOp e107<|OY rfl<|OX (EC gf23 rfl) (seq14 _ _) (fun hp42 w10 Hd => ?_) (fun hp42 w10 Hd => ?_)
 have H10 := H9.callN Hd
 refine Xt rfl rfl<|Xm rfl<|cOp e107<|OY rfl<|Xm rfl<|OY rfl<|Xn rfl<|cOp e107<|OY rfl<|Xm rfl<|OZ rfl<|cOp e107<|OZ rfl<|OZ rfl<|cOp e107<|OZ rfl<|OZ rfl<|cOp e107<|OY rfl<|Xt rfl rfl<|Xt rfl rfl<|Xr e107<|J3 rfl<|J2<|Xf fl27_2 rfl<|OV (EL ty25 rfl (H10.cell (i := 0) rfl rfl))<|Xf fl45_6 rfl<|OV (EL ty3 rfl (H10.cell (i := 1) rfl rfl))<|cOp e107<|Xf fl45_7 rfl<|OV (EL ty3 rfl (H10.cell (i := 1) rfl rfl))<|OV (EB ty63 pl63 rfl rfl) ?_
 have hnp8 := Hp.fresh H10
 have hsz8 := H10.size
 refine OQ (EC gf24 rfl) (with14 A3 k3 b.last (⟨n.client, n.seq⟩ : Mk) ok _ (hb3.toM (HP.all H10) k0) hg.mks hp38 hp42) ?_
 rintro _ w11 ⟨A8, k8, rfl, hA8, Hd⟩
 have HX := H10.callN Hd
 have H11 := HX.here
 refine cOp e107<|Xf fl27_2 rfl<|OW ty25 H11 0 rfl rfl rfl rfl (by first | (simp; done) | simp [putAt]) rfl<|fun w12 H12=>Xr e107<|Rq<|OV (EN ty27 rfl (vs := [.slice A1 b.groups.length k1, .slice A9 (putRt b.rights n.right).length k9, .slice A8 (putMk b.last ⟨n.client, n.seq⟩).length k8]) rfl (H12.cellsR (i := 0) rfl rfl))<|OS ty27 H12 2 rfl rfl rfl rfl rfl (by first | decide | (simp; done) | simp [putAt]) rfl<|fun w13 H13=>Xa rfl<|Xr e107<|J5<|fin_cell_tmp rfl ty27 (cs := [.slice A1 b.groups.length k1, .slice A9 (putRt b.rights n.right).length k9, .slice A8 (putMk b.last ⟨n.client, n.seq⟩).length k8]) rfl rfl rfl (H13.cellsR (i := 2) rfl rfl) ?_
 have HW := HP.all (HX.all H13)
 refine ⟨A1, _, k1, A9, _, k9, _, _, _, true, rfl, (fun b' hb' => ?_), (fun hb' => by rw [into_right hp14 hmay] at hb'; cases hb'), HW.noRows⟩
 rw [into_right hp14 hmay] at hb'
 simp only [Option.some.injEq] at hb'
 subst hb'
 refine ⟨rfl, A1, k1, A9, k9, A8, k8, ?_, hb1.toS HW up_k0, hA9.toR (HX.all H13) (fun x hx _ => ⟨hnp9 x hx, .inr (by have := hx; omega)⟩), ?_⟩
 show _ = [_, _, Value.slice _ (spend b.last n.client n.seq).length _]
 rw [spend_new (by omega) hfm]
 show Sl MkR 7 _ _ _ (spend b.last n.client n.seq)
 rw [spend_new (by omega) hfm]
 exact hA8.toM H13 (fun x hx _ => ⟨hnp8 x hx, .inr (by have := hx; omega)⟩)
 have H10 := H9.callN Hd
 refine Xt rfl rfl<|Xm rfl<|cOp e107<|OZ rfl<|OZ rfl<|cOp e107<|OZ rfl<|OZ rfl<|cOp e107<|OZ rfl<|OZ rfl<|cOp e107<|OZ rfl<|OZ rfl<|cOp e107<|OZ rfl<|Xu rfl rfl<|Xr e107<|J4 rfl<|J6<|Rq<|OV (EN ty27 rfl (vs := [.slice A1 b.groups.length k1, .slice A9 (putRt b.rights n.right).length k9, .slice A3 b.last.length k3]) rfl (H10.cellsR (i := 0) rfl rfl))<|OS ty27 H10 2 rfl rfl rfl rfl rfl (by first | decide | (simp; done) | simp [putAt]) rfl<|fun w11 H11=>Xa rfl<|Xr e107<|J5<|fin_cell_tmp rfl ty27 (cs := [.slice A1 b.groups.length k1, .slice A9 (putRt b.rights n.right).length k9, .slice A3 b.last.length k3]) rfl rfl rfl (H11.cellsR (i := 2) rfl rfl) ?_
 have HW := HP.all H11
 refine ⟨A1, _, k1, A9, _, k9, _, _, _, true, rfl, (fun b' hb' => ?_), (fun hb' => by rw [into_right hp14 hmay] at hb'; cases hb'), HW.noRows⟩
 rw [into_right hp14 hmay] at hb'
 simp only [Option.some.injEq] at hb'
 subst hb'
 refine ⟨rfl, A1, k1, A9, k9, A3, k3, ?_, hb1.toS HW up_k0, hA9.toR H11 (fun x hx _ => ⟨hnp9 x hx, .inr (by have := hx; omega)⟩), ?_⟩
 show _ = [_, _, Value.slice _ (spend b.last n.client n.seq).length _]
 rw [spend_no (by omega)]
 show Sl MkR 7 _ _ _ (spend b.last n.client n.seq)
 rw [spend_no (by omega)]
 exact hb3.toM HW up_k0
 have H9 := H8.callN Hd
 refine Xm rfl<|cOp e107<|OZ rfl<|OZ rfl<|cOp e107<|OZ rfl<|Xu rfl rfl<|Xm rfl<|cOp e107<|OZ rfl<|OZ rfl<|cOp e107<|OZ rfl<|OZ rfl<|cOp e107<|OZ rfl<|OZ rfl<|cOp e107<|OZ rfl<|OZ rfl<|cOp e107<|OZ rfl<|Xu rfl rfl<|Xr e107<|J4 rfl<|J6<|Rq<|OV (EN ty27 rfl (vs := [.slice A1 b.groups.length k1, .slice A9 (putRt b.rights n.right).length k9, .slice A3 b.last.length k3]) rfl (H9.cellsR (i := 0) rfl rfl))<|OS ty27 H9 2 rfl rfl rfl rfl rfl (by first | decide | (simp; done) | simp [putAt]) rfl<|fun w10 H10=>Xa rfl<|Xr e107<|J5<|fin_cell_tmp rfl ty27 (cs := [.slice A1 b.groups.length k1, .slice A9 (putRt b.rights n.right).length k9, .slice A3 b.last.length k3]) rfl rfl rfl (H10.cellsR (i := 2) rfl rfl) ?_
 have HW := HP.all H10
 refine ⟨A1, _, k1, A9, _, k9, _, _, _, true, rfl, (fun b' hb' => ?_), (fun hb' => by rw [into_right hp14 hmay] at hb'; cases hb'), HW.noRows⟩
 rw [into_right hp14 hmay] at hb'
 simp only [Option.some.injEq] at hb'
 subst hb'
 refine ⟨rfl, A1, k1, A9, k9, A3, k3, ?_, hb1.toS HW up_k0, hA9.toR H10 (fun x hx _ => ⟨hnp9 x hx, .inr (by have := hx; omega)⟩), ?_⟩
 show _ = [_, _, Value.slice _ (spend b.last n.client n.seq).length _]
 rw [spend_no (by omega)]
 show Sl MkR 7 _ _ _ (spend b.last n.client n.seq)
 rw [spend_no (by omega)]
 exact hb3.toM HW up_k0
 rename_i o
 obtain rfl := hyes2 o hfm
 refine Xm rfl<|Xe rfl rfl<|Xe rfl rfl<|OA ty63 H6<|fun w7 gz H7 _=>cOp e107<|OS ty63 H7 3 (vs := [.int .i64 o.client, .int .i64 o.seq, .bool false, .int .i64 0, .int .i64 0, .int .i64 0, .int .i64 0]) rfl rfl rfl rfl rfl (Nat.le_refl 7) rfl<|fun w8 H8=>Xa rfl<|Xr e107<|J1<|Rq<|Xf fl45_6 rfl<|OV (EL ty3 rfl (H8.cell (i := 1) rfl rfl))<|OX (EC gf22 rfl) (client14 _ _) (fun hp38 w9 Hd => ?_) (fun hp38 w9 Hd => ?_)
 have H9 := H8.callN Hd
 refine Xm rfl<|cOp e107<|OY rfl<|Xf fl45_7 rfl<|OY rfl<|OV (EL ty3 rfl (H9.cell (i := 1) rfl rfl))<|cOp e107<|OY rfl<|OX (EC gf23 rfl) (seq14 _ _) (fun hp42 w10 Hd => ?_) (fun hp42 w10 Hd => ?_)
 have H10 := H9.callN Hd
 refine Xt rfl rfl<|Xm rfl<|cOp e107<|OY rfl<|Xm rfl<|OY rfl<|Xn rfl<|cOp e107<|OY rfl<|Xm rfl<|OY rfl<|Xf fl45_7 rfl<|cOp e107<|OY rfl<|OV (EL ty3 rfl (H10.cell (i := 1) rfl rfl))<|OY rfl<|Xf fl63_1 rfl<|cOp e107<|OY rfl<|OV (EL ty3 rfl (H10.cell (i := 3) rfl rfl))<|OY rfl<|OT (ex_gtr rfl rfl) (fun hp52 => ?_) (fun hp52 => ?_)
 refine OY rfl<|Xu rfl rfl<|Xt rfl rfl<|Xr e107<|J3 rfl<|J2<|Xf fl27_2 rfl<|OV (EL ty25 rfl (H10.cell (i := 0) rfl rfl))<|Xf fl45_6 rfl<|OV (EL ty3 rfl (H10.cell (i := 1) rfl rfl))<|cOp e107<|Xf fl45_7 rfl<|OV (EL ty3 rfl (H10.cell (i := 1) rfl rfl))<|OV (EB ty63 pl63 rfl rfl) ?_
 have hnp8 := Hp.fresh H10
 have hsz8 := H10.size
 refine OQ (EC gf24 rfl) (with14 A3 k3 b.last (⟨n.client, n.seq⟩ : Mk) ok _ (hb3.toM (HP.all H10) k0) hg.mks hp38 hp42) ?_
 rintro _ w11 ⟨A8, k8, rfl, hA8, Hd⟩
 have HX := H10.callN Hd
 have H11 := HX.here
 refine cOp e107<|Xf fl27_2 rfl<|OW ty25 H11 0 rfl rfl rfl rfl (by first | (simp; done) | simp [putAt]) rfl<|fun w12 H12=>Xr e107<|Rq<|OV (EN ty27 rfl (vs := [.slice A1 b.groups.length k1, .slice A9 (putRt b.rights n.right).length k9, .slice A8 (putMk b.last ⟨n.client, n.seq⟩).length k8]) rfl (H12.cellsR (i := 0) rfl rfl))<|OS ty27 H12 2 rfl rfl rfl rfl rfl (by first | decide | (simp; done) | simp [putAt]) rfl<|fun w13 H13=>Xa rfl<|Xr e107<|J5<|fin_cell_tmp rfl ty27 (cs := [.slice A1 b.groups.length k1, .slice A9 (putRt b.rights n.right).length k9, .slice A8 (putMk b.last ⟨n.client, n.seq⟩).length k8]) rfl rfl rfl (H13.cellsR (i := 2) rfl rfl) ?_
 have HW := HP.all (HX.all H13)
 refine ⟨A1, _, k1, A9, _, k9, _, _, _, true, rfl, (fun b' hb' => ?_), (fun hb' => by rw [into_right hp14 hmay] at hb'; cases hb'), HW.noRows⟩
 rw [into_right hp14 hmay] at hb'
 simp only [Option.some.injEq] at hb'
 subst hb'
 refine ⟨rfl, A1, k1, A9, k9, A8, k8, ?_, hb1.toS HW up_k0, hA9.toR (HX.all H13) (fun x hx _ => ⟨hnp9 x hx, .inr (by have := hx; omega)⟩), ?_⟩
 show _ = [_, _, Value.slice _ (spend b.last n.client n.seq).length _]
 rw [spend_more (by omega) hfm (by omega)]
 show Sl MkR 7 _ _ _ (spend b.last n.client n.seq)
 rw [spend_more (by omega) hfm (by omega)]
 exact hA8.toM H13 (fun x hx _ => ⟨hnp8 x hx, .inr (by have := hx; omega)⟩)
 refine OY rfl<|Xu rfl rfl<|Xt rfl rfl<|Xr e107<|J4 rfl<|J6<|Rq<|OV (EN ty27 rfl (vs := [.slice A1 b.groups.length k1, .slice A9 (putRt b.rights n.right).length k9, .slice A3 b.last.length k3]) rfl (H10.cellsR (i := 0) rfl rfl))<|OS ty27 H10 2 rfl rfl rfl rfl rfl (by first | decide | (simp; done) | simp [putAt]) rfl<|fun w11 H11=>Xa rfl<|Xr e107<|J5<|fin_cell_tmp rfl ty27 (cs := [.slice A1 b.groups.length k1, .slice A9 (putRt b.rights n.right).length k9, .slice A3 b.last.length k3]) rfl rfl rfl (H11.cellsR (i := 2) rfl rfl) ?_
 have HW := HP.all H11
 refine ⟨A1, _, k1, A9, _, k9, _, _, _, true, rfl, (fun b' hb' => ?_), (fun hb' => by rw [into_right hp14 hmay] at hb'; cases hb'), HW.noRows⟩
 rw [into_right hp14 hmay] at hb'
 simp only [Option.some.injEq] at hb'
 subst hb'
 refine ⟨rfl, A1, k1, A9, k9, A3, k3, ?_, hb1.toS HW up_k0, hA9.toR H11 (fun x hx _ => ⟨hnp9 x hx, .inr (by have := hx; omega)⟩), ?_⟩
 show _ = [_, _, Value.slice _ (spend b.last n.client n.seq).length _]
 rw [spend_has hfm (by omega)]
 show Sl MkR 7 _ _ _ (spend b.last n.client n.seq)
 rw [spend_has hfm (by omega)]
 exact hb3.toM HW up_k0
 have H10 := H9.callN Hd
 refine Xt rfl rfl<|Xm rfl<|cOp e107<|OZ rfl<|OZ rfl<|cOp e107<|OZ rfl<|OZ rfl<|cOp e107<|OZ rfl<|OZ rfl<|cOp e107<|OZ rfl<|OZ rfl<|cOp e107<|OZ rfl<|Xu rfl rfl<|Xr e107<|J4 rfl<|J6<|Rq<|OV (EN ty27 rfl (vs := [.slice A1 b.groups.length k1, .slice A9 (putRt b.rights n.right).length k9, .slice A3 b.last.length k3]) rfl (H10.cellsR (i := 0) rfl rfl))<|OS ty27 H10 2 rfl rfl rfl rfl rfl (by first | decide | (simp; done) | simp [putAt]) rfl<|fun w11 H11=>Xa rfl<|Xr e107<|J5<|fin_cell_tmp rfl ty27 (cs := [.slice A1 b.groups.length k1, .slice A9 (putRt b.rights n.right).length k9, .slice A3 b.last.length k3]) rfl rfl rfl (H11.cellsR (i := 2) rfl rfl) ?_
 have HW := HP.all H11
 refine ⟨A1, _, k1, A9, _, k9, _, _, _, true, rfl, (fun b' hb' => ?_), (fun hb' => by rw [into_right hp14 hmay] at hb'; cases hb'), HW.noRows⟩
 rw [into_right hp14 hmay] at hb'
 simp only [Option.some.injEq] at hb'
 subst hb'
 refine ⟨rfl, A1, k1, A9, k9, A3, k3, ?_, hb1.toS HW up_k0, hA9.toR H11 (fun x hx _ => ⟨hnp9 x hx, .inr (by have := hx; omega)⟩), ?_⟩
 show _ = [_, _, Value.slice _ (spend b.last n.client n.seq).length _]
 rw [spend_no (by omega)]
 show Sl MkR 7 _ _ _ (spend b.last n.client n.seq)
 rw [spend_no (by omega)]
 exact hb3.toM HW up_k0
 have H9 := H8.callN Hd
 refine Xm rfl<|cOp e107<|OZ rfl<|OZ rfl<|cOp e107<|OZ rfl<|Xu rfl rfl<|Xm rfl<|cOp e107<|OZ rfl<|OZ rfl<|cOp e107<|OZ rfl<|OZ rfl<|cOp e107<|OZ rfl<|OZ rfl<|cOp e107<|OZ rfl<|OZ rfl<|cOp e107<|OZ rfl<|Xu rfl rfl<|Xr e107<|J4 rfl<|J6<|Rq<|OV (EN ty27 rfl (vs := [.slice A1 b.groups.length k1, .slice A9 (putRt b.rights n.right).length k9, .slice A3 b.last.length k3]) rfl (H9.cellsR (i := 0) rfl rfl))<|OS ty27 H9 2 rfl rfl rfl rfl rfl (by first | decide | (simp; done) | simp [putAt]) rfl<|fun w10 H10=>Xa rfl<|Xr e107<|J5<|fin_cell_tmp rfl ty27 (cs := [.slice A1 b.groups.length k1, .slice A9 (putRt b.rights n.right).length k9, .slice A3 b.last.length k3]) rfl rfl rfl (H10.cellsR (i := 2) rfl rfl) ?_
 have HW := HP.all H10
 refine ⟨A1, _, k1, A9, _, k9, _, _, _, true, rfl, (fun b' hb' => ?_), (fun hb' => by rw [into_right hp14 hmay] at hb'; cases hb'), HW.noRows⟩
 rw [into_right hp14 hmay] at hb'
 simp only [Option.some.injEq] at hb'
 subst hb'
 refine ⟨rfl, A1, k1, A9, k9, A3, k3, ?_, hb1.toS HW up_k0, hA9.toR H10 (fun x hx _ => ⟨hnp9 x hx, .inr (by have := hx; omega)⟩), ?_⟩
 show _ = [_, _, Value.slice _ (spend b.last n.client n.seq).length _]
 rw [spend_no (by omega)]
 show Sl MkR 7 _ _ _ (spend b.last n.client n.seq)
 rw [spend_no (by omega)]
 exact hb3.toM HW up_k0
 obtain rfl := hno hmay
 refine Xm rfl<|Xe rfl rfl<|Xe rfl rfl<|Xa rfl<|cOp e107<|Xa rfl<|Xr e107<|J1<|Rq<|Xm rfl<|OT1 (ex_neq rfl rfl) (by decide)<|Xr e107<|J3 rfl<|Rq<|OV (EN ty27 rfl (vs := [.slice A1 b.groups.length k1, .slice A2 b.rights.length k2, .slice A3 b.last.length k3]) rfl (H4.cellsR (i := 0) rfl rfl))<|OS ty27 H4 2 rfl rfl rfl rfl rfl (by first | decide | (simp; done) | simp [putAt]) rfl<|fun w5 H5=>Xa rfl<|Xr e107<|J5<|fin_cell_tmp rfl ty27 (cs := [.slice A1 b.groups.length k1, .slice A2 b.rights.length k2, .slice A3 b.last.length k3]) rfl rfl rfl (H5.cellsR (i := 2) rfl rfl)<|⟨_, _, _, _, _, _, _, _, _, false, rfl, (fun b' hb' => by rw [into_wrong hp14 hmay] at hb'; cases hb'), fun _ => rfl, (HP.all H5).noRows⟩
 refine Xr e107<|J4 rfl<|J6<|J1<|Rq<|Xf fl45_0 rfl<|OV (EL ty3 rfl (H3.cell (i := 1) rfl rfl))<|OT (ex_lss rfl rfl) (fun hp67 => ?_) (fun hp67 => ?_)
 refine Xm rfl<|cOp e107<|OZ rfl<|OZ rfl<|cOp e107<|OZ rfl<|Xt rfl rfl<|Xm rfl<|cOp e107<|OZ rfl<|OZ rfl<|cOp e107<|OZ rfl<|Xt rfl rfl<|Xm rfl<|cOp e107<|OZ rfl<|OZ rfl<|cOp e107<|OZ rfl<|Xt rfl rfl<|Xr e107<|J3 rfl<|Rq<|OV (EN ty27 rfl (vs := [.slice A1 b.groups.length k1, .slice A2 b.rights.length k2, .slice A3 b.last.length k3]) rfl (H3.cellsR (i := 0) rfl rfl))<|OS ty27 H3 2 rfl rfl rfl rfl rfl (by first | decide | (simp; done) | simp [putAt]) rfl<|fun w4 H4=>Xa rfl<|Xr e107<|J5<|fin_cell_tmp rfl ty27 (cs := [.slice A1 b.groups.length k1, .slice A2 b.rights.length k2, .slice A3 b.last.length k3]) rfl rfl rfl (H4.cellsR (i := 2) rfl rfl)<|⟨_, _, _, _, _, _, _, _, _, false, rfl, (fun b' hb' => by rw [into_bad hp14 (by omega)] at hb'; cases hb'), fun _ => rfl, H4.noRows⟩
 refine Xm rfl<|cOp e107<|OY rfl<|Xf fl45_0 rfl<|OY rfl<|OV (EL ty3 rfl (H3.cell (i := 1) rfl rfl))<|cOp e107<|OY rfl<|OT (ex_gtr rfl rfl) (fun hp71 => ?_) (fun hp71 => ?_)
 refine Xu rfl rfl<|Xm rfl<|cOp e107<|OZ rfl<|OZ rfl<|cOp e107<|OZ rfl<|Xt rfl rfl<|Xm rfl<|cOp e107<|OZ rfl<|OZ rfl<|cOp e107<|OZ rfl<|Xt rfl rfl<|Xr e107<|J3 rfl<|Rq<|OV (EN ty27 rfl (vs := [.slice A1 b.groups.length k1, .slice A2 b.rights.length k2, .slice A3 b.last.length k3]) rfl (H3.cellsR (i := 0) rfl rfl))<|OS ty27 H3 2 rfl rfl rfl rfl rfl (by first | decide | (simp; done) | simp [putAt]) rfl<|fun w4 H4=>Xa rfl<|Xr e107<|J5<|fin_cell_tmp rfl ty27 (cs := [.slice A1 b.groups.length k1, .slice A2 b.rights.length k2, .slice A3 b.last.length k3]) rfl rfl rfl (H4.cellsR (i := 2) rfl rfl)<|⟨_, _, _, _, _, _, _, _, _, false, rfl, (fun b' hb' => by rw [into_bad hp14 (by omega)] at hb'; cases hb'), fun _ => rfl, H4.noRows⟩
 refine Xu rfl rfl<|Xm rfl<|cOp e107<|OY rfl<|Xf fl45_1 rfl<|OY rfl<|OV (EL ty3 rfl (H3.cell (i := 1) rfl rfl))<|cOp e107<|OY rfl<|OT (ex_lss rfl rfl) (fun hp76 => ?_) (fun hp76 => ?_)
 refine Xu rfl rfl<|Xm rfl<|cOp e107<|OZ rfl<|OZ rfl<|cOp e107<|OZ rfl<|Xt rfl rfl<|Xr e107<|J3 rfl<|Rq<|OV (EN ty27 rfl (vs := [.slice A1 b.groups.length k1, .slice A2 b.rights.length k2, .slice A3 b.last.length k3]) rfl (H3.cellsR (i := 0) rfl rfl))<|OS ty27 H3 2 rfl rfl rfl rfl rfl (by first | decide | (simp; done) | simp [putAt]) rfl<|fun w4 H4=>Xa rfl<|Xr e107<|J5<|fin_cell_tmp rfl ty27 (cs := [.slice A1 b.groups.length k1, .slice A2 b.rights.length k2, .slice A3 b.last.length k3]) rfl rfl rfl (H4.cellsR (i := 2) rfl rfl)<|⟨_, _, _, _, _, _, _, _, _, false, rfl, (fun b' hb' => by rw [into_bad hp14 (by omega)] at hb'; cases hb'), fun _ => rfl, H4.noRows⟩
 refine Xu rfl rfl<|Xm rfl<|cOp e107<|OY rfl<|Xf fl45_1 rfl<|OY rfl<|OV (EL ty3 rfl (H3.cell (i := 1) rfl rfl))<|cOp e107<|OY rfl<|OT (ex_geq rfl rfl) (fun hp81 => ?_) (fun hp81 => ?_)
 refine Xu rfl rfl<|Xr e107<|J3 rfl<|Rq<|OV (EN ty27 rfl (vs := [.slice A1 b.groups.length k1, .slice A2 b.rights.length k2, .slice A3 b.last.length k3]) rfl (H3.cellsR (i := 0) rfl rfl))<|OS ty27 H3 2 rfl rfl rfl rfl rfl (by first | decide | (simp; done) | simp [putAt]) rfl<|fun w4 H4=>Xa rfl<|Xr e107<|J5<|fin_cell_tmp rfl ty27 (cs := [.slice A1 b.groups.length k1, .slice A2 b.rights.length k2, .slice A3 b.last.length k3]) rfl rfl rfl (H4.cellsR (i := 2) rfl rfl)<|⟨_, _, _, _, _, _, _, _, _, false, rfl, (fun b' hb' => by rw [into_bad hp14 (by omega)] at hb'; cases hb'), fun _ => rfl, H4.noRows⟩
 obtain ⟨s, hs⟩ := get_of (l := b.groups) (j := n.group.toNat) (by omega)
 have hsl := lt_of_get hs
 obtain ⟨p1, hp1, hR⟩ := h2g.get hs
 obtain ⟨C1, q1, C2, q2, C3, q3, rfl, hv1, hv2, hv3⟩ := hR
 obtain ⟨a1, ha1⟩ := hrg.some_ (by omega)
 subst ha1
 have hce := (chk_iff s).1 (hg.chk s (mem_of hs))
 have hvfew := vts_few hce
 have hefew := ents_few hce
 have hglen := goes_len s n
 refine Xu rfl rfl<|Xr e107<|J4 rfl<|J6<|J1<|run_mixT 9 (.p 0 (.p 1 (.p 2 (.p 3 (.p 4 (.p 5 (.p 6 (.two 7 (.o 8 (.o 9 .nil)) 8 (.o 7 (.o 9 .nil)))))))))) H3 [0, 1, 2] mixed (by decide) (by kernel_rfl) ?_
 rintro w4 hw4
 have H4 := Hp.drew H3; rw [← hw4] at H4
 refine Tf rfl fl27_0 rfl<|TP rfl<|MV (fun wz hz => EL ty23 rfl (hz.cell (i := 0) rfl rfl))<|Tf rfl fl45_1 rfl<|TP rfl<|MV (fun wz hz => EL ty3 rfl (hz.cell (i := 1) rfl rfl))<|cT e107<|TP rfl<|MV (fun wz hz => EI Tryz.underlying23 ty57 rfl rfl (len := b.groups.length) (i := n.group.toNat) (by omega) (by omega) rfl)<|TP rfl<|MV (fun wz hz => EN ty57 rfl (vs := [.int .i64 s.p.r, .int .i64 s.p.n, .slice C1 s.votes.length q1, .int .i64 s.index, .slice C2 s.image.length q2, .slice C3 s.entries.length q3]) rfl ((hrg.to0 hz).elem hpg hp1))<|TP rfl<|MV (fun wz hz => EN ty45 rfl (vs := [.int .i64 n.kind, .int .i64 n.group, .int .i64 n.b.r, .int .i64 n.b.n, .int .i64 n.vote.slot, .int .i64 n.vote.b.r, .int .i64 n.vote.b.n, .slice B1 n.vote.val.length j1, .int .i64 n.entry.slot, .slice B2 n.entry.val.length j2, .int .i64 n.right.g, strV n.right.key, .int .i64 n.right.lease, .int .i64 n.right.net, .int .i64 n.client, .int .i64 n.seq]) rfl (hz.cellsR (i := 1) rfl rfl))<|mixt_two ?_ ?_
 refine TQ rfl ?_
 have hnp := Hp.fresh H4
 have hszp := H4.size
 have hpl := bl_place H4
 refine OQ (EC gf25 rfl) (goes_r s C1 q1 C2 q2 C3 q3 n B1 j1 B2 j2 (fun x => ok x ∧ x < w0.heap.size) _ (hv1.toV H4 (fun x hx hl => ⟨by simp, hx, hl⟩)) (hv2.to H4 (fun x hx hl => ⟨by simp, hx, hl⟩)) (hv3.toE H4 (fun x hx hl => ⟨by simp, hx, hl⟩)) (hbv.to H4 (fun x hx hl => ⟨by simp, hx, hl⟩)) (hbe.to H4 (fun x hx hl => ⟨by simp, hx, hl⟩)) ⟨by omega, by omega⟩ ⟨hce.i.1, hce.i.2.1⟩ hefew (by omega) (fun x hx => by obtain ⟨i, hi⟩ := List.getElem?_of_mem hx; exact (ents_slot hce.e i x hi).2.1)) ?_
 rintro _ w5 ⟨cs2, rfl, hsv, Hd⟩
 have HG := H4.callN Hd
 have HL := HG.here
 have H5 := HG
 obtain ⟨D1, e1, D2, e2, D3, e3, rfl, hw1, hw2, hw3⟩ := hsv
 have hnk : ∀ x, up (fun x => ok x ∧ x < w0.heap.size) w4.heap.size x → x ∉ bl _ := fun x hx hb => (show False from by
   rcases hx with hx | hx
   · rcases hpl x hb with h | h
     · cases h
     · have := hx.2; omega
   · exact hnp x hx hb)
 have hkk : ∀ x, up (fun x => ok x ∧ x < w0.heap.size) w4.heap.size x → x < w5.heap.size → x ∉ bl _ ∧ up ok w0.heap.size x := fun x hx _ => ⟨hnk x hx, by
   rcases hx with hx | hx
   · exact .inl hx.1
   · exact .inr (by omega)⟩
 refine OE ?_
 refine ⟨fun hne => H5.pick [0, 1, 2] (by decide), ?_⟩
 refine cT e107<|TQ rfl<|OA ty57 HL<|fun w6 gs HL2 _=>have H6:=HG.all HL2;OE<|⟨fun hne => H6.pick [0, 1, 2] (by decide), ?_⟩
 refine cT e107<|TQ rfl<|OS ty57 HL2 3 (vs := [.int .i64 (s.goes n).p.r, .int .i64 (s.goes n).p.n, .slice D1 (s.goes n).votes.length e1, .int .i64 (s.goes n).index, .slice D2 (s.goes n).image.length e2, .slice D3 (s.goes n).entries.length e3]) rfl rfl rfl rfl rfl (Nat.le_refl 6) rfl<|fun w7 H7=>OE<|⟨fun hne => absurd rfl hne, ?_⟩
 refine cT e107<|mixt_nil<|cR e107<|J1<|Rq<|OV (EN ty57 rfl (vs := [.int .i64 (s.goes n).p.r, .int .i64 (s.goes n).p.n, .slice D1 (s.goes n).votes.length e1, .int .i64 (s.goes n).index, .slice D2 (s.goes n).image.length e2, .slice D3 (s.goes n).entries.length e3]) rfl (H7.cellsR (i := 3) rfl rfl))<|OQ (EC gf26 rfl) (check_r (s.goes n) D1 e1 D2 e2 D3 e3 _ _ (hw1.toV H7 hkk) (hw2.to H7 hkk) (hw3.toE H7 hkk) (by omega) (by omega)) ?_
 rintro _ w8 ⟨e, rfl, hans, Hd⟩
 have H8 := H7.callN Hd
 refine OT (ex_neq rfl rfl) (fun hp94 => ?_) (fun hp94 => ?_)
 refine Xr e107<|J3 rfl<|Rq<|OV (EN ty27 rfl (vs := [.slice (some a1) b.groups.length k1, .slice A2 b.rights.length k2, .slice A3 b.last.length k3]) rfl (H8.cellsR (i := 0) rfl rfl))<|OS ty27 H8 2 rfl rfl rfl rfl rfl (by first | decide | (simp; done) | simp [putAt]) rfl<|fun w9 H9=>Xa rfl<|Xr e107<|J5<|fin_cell_tmp rfl ty27 (cs := [.slice (some a1) b.groups.length k1, .slice A2 b.rights.length k2, .slice A3 b.last.length k3]) rfl rfl rfl (H9.cellsR (i := 2) rfl rfl)<|⟨_, _, _, _, _, _, _, _, _, false, rfl, (fun b' hb' => by rw [into_no hp14 hs (by cases hc : chk (s.goes n) with | false => rfl | true => exact absurd (hans.1 hc) hp94)] at hb'; cases hb'), fun _ => rfl, (HG.all H9).noRows⟩
 have hchk : chk (s.goes n) = true := by cases hc : chk (s.goes n) with | true => rfl | false => have := hans.2 hc; omega
 refine Xr e107<|J4 rfl<|J6<|Rq<|Xf fl27_0 rfl<|OV (EL ty23 rfl (H8.cell (i := 0) rfl rfl))<|ops_grow Tryz.underlying23 ty57 (by decide) (H8.nil 57) 4 (Gw.nil 6) rfl rfl (rs := pg)  (m := b.groups.length) hgl rfl (hrg.to0 (HG.all H8)) hpg hong (by rw [List.length_nil]; omega) (by rw [List.length_nil]; omega) (by decide)<|fun w9 g2 cap2 sp2 H9 hG2=>?_
 rw [List.nil_append pg] at H9 hG2 ⊢
 rw [hgl]
 obtain ⟨gw, rfl⟩ := own_some H9 (i := 4) rfl (by rw [List.length_append, hpg.len]; omega)
 refine Xa rfl<|Xr e107<|Rq<|Xm rfl<|Xf fl45_1 rfl<|OV (EL ty3 rfl (H9.cell (i := 1) rfl rfl))<|OV (EN ty57 rfl (vs := [.int .i64 (s.goes n).p.r, .int .i64 (s.goes n).p.n, .slice D1 (s.goes n).votes.length e1, .int .i64 (s.goes n).index, .slice D2 (s.goes n).image.length e2, .slice D3 (s.goes n).entries.length e3]) rfl (H9.cellsR (i := 3) rfl rfl))<|cOp e107<|OV (ex_idxN Tryz.underlying23 ty57 rfl rfl (len := b.groups.length) (i := n.group.toNat) (by omega) (by omega))<|OS ty57 H9 4 rfl rfl rfl rfl rfl (by rw [List.length_append, hpg.len]; show 0 + n.group.toNat * 6 + 6 ≤ _; omega) rfl<|fun w10 H10=>?_
 rw [store_elem (sz := 6) (vs := [.int .i64 (s.goes n).p.r, .int .i64 (s.goes n).p.n, .slice D1 (s.goes n).votes.length e1, .int .i64 (s.goes n).index, .slice D2 (s.goes n).image.length e2, .slice D3 (s.goes n).entries.length e3]) hpg (by omega) rfl] at H10
 refine Xr e107<|Rq<|Xm rfl<|Xf fl27_0 rfl<|OW ty23 H10 0 rfl rfl rfl rfl (by first | (simp; done) | simp [putAt]) rfl<|fun w11 H11=>Xr e107<|Rq<|OV (EN ty27 rfl (vs := [.slice (hd (some gw)) b.groups.length cap2, .slice A2 b.rights.length k2, .slice A3 b.last.length k3]) rfl (H11.cellsR (i := 0) rfl rfl))<|OS ty27 H11 2 rfl rfl rfl rfl rfl (by first | decide | (simp; done) | simp [putAt]) rfl<|fun w12 H12=>Xa rfl<|Xr e107<|J5<|fin_cell_tmp rfl ty27 (cs := [.slice (hd (some gw)) b.groups.length cap2, .slice A2 b.rights.length k2, .slice A3 b.last.length k3]) rfl rfl rfl (H12.cellsR (i := 2) rfl rfl) ?_
 have HW := HG.all H12
 refine ⟨_, _, _, _, _, _, _, _, _, true, rfl, fun b' hb' => ?_, (fun h => by rw [into_yes hp14 (by omega) hs hchk] at h; cases h), HW.noRows⟩
 rw [into_yes hp14 (by omega) hs hchk] at hb'
 simp only [Option.some.injEq] at hb'
 subst hb'
 refine ⟨rfl, hd (some gw), cap2, A2, k2, A3, k3, by rw [List.length_set], ?_, hb2.toR HW up_k0, hb3.toM HW up_k0⟩
 exact Sl.row HW (i := 4) rfl (hpg.set_len rfl) (by decide) ((h2g.imp (R' := SvR w12 (up ok w0.heap.size)) fun p x h => h.to HW up_k0).set _ ⟨D1, e1, D2, e2, D3, e3, rfl, hw1.toV H12 hkk, hw2.to H12 hkk, hw3.toE H12 hkk⟩) (row_new (ok := ok) HW (i := 4) rfl (fun _ h => by cases h))
 refine TQ rfl<|OA ty57 H4<|fun w5 gs H5 _=>OE<|⟨fun hne => H5.pick [0, 1, 2] (by decide), ?_⟩
 refine cT e107<|TQ rfl ?_
 have hnp := Hp.fresh H5
 have hszp := H5.size
 have hpl := bl_place H5
 refine OQ (EC gf25 rfl) (goes_r s C1 q1 C2 q2 C3 q3 n B1 j1 B2 j2 (fun x => ok x ∧ x < w0.heap.size) _ (hv1.toV H5 (fun x hx hl => ⟨by simp, hx, hl⟩)) (hv2.to H5 (fun x hx hl => ⟨by simp, hx, hl⟩)) (hv3.toE H5 (fun x hx hl => ⟨by simp, hx, hl⟩)) (hbv.to H5 (fun x hx hl => ⟨by simp, hx, hl⟩)) (hbe.to H5 (fun x hx hl => ⟨by simp, hx, hl⟩)) ⟨by omega, by omega⟩ ⟨hce.i.1, hce.i.2.1⟩ hefew (by omega) (fun x hx => by obtain ⟨i, hi⟩ := List.getElem?_of_mem hx; exact (ents_slot hce.e i x hi).2.1)) ?_
 rintro _ w6 ⟨cs2, rfl, hsv, Hd⟩
 have HG := H5.callN Hd
 have HL := HG.here
 have H6 := HG
 obtain ⟨D1, e1, D2, e2, D3, e3, rfl, hw1, hw2, hw3⟩ := hsv
 have hnk : ∀ x, up (fun x => ok x ∧ x < w0.heap.size) w5.heap.size x → x ∉ bl _ := fun x hx hb => (show False from by
   rcases hx with hx | hx
   · rcases hpl x hb with h | h
     · cases h
     · have := hx.2; omega
   · exact hnp x hx hb)
 have hkk : ∀ x, up (fun x => ok x ∧ x < w0.heap.size) w5.heap.size x → x < w6.heap.size → x ∉ bl _ ∧ up ok w0.heap.size x := fun x hx _ => ⟨hnk x hx, by
   rcases hx with hx | hx
   · exact .inl hx.1
   · exact .inr (by omega)⟩
 refine OE ?_
 refine ⟨fun hne => H6.pick [0, 1, 2] (by decide), ?_⟩
 refine cT e107<|TQ rfl<|OS ty57 HL 3 (vs := [.int .i64 (s.goes n).p.r, .int .i64 (s.goes n).p.n, .slice D1 (s.goes n).votes.length e1, .int .i64 (s.goes n).index, .slice D2 (s.goes n).image.length e2, .slice D3 (s.goes n).entries.length e3]) rfl rfl rfl rfl rfl (Nat.le_refl 6) rfl<|fun w7 H7=>OE<|⟨fun hne => absurd rfl hne, ?_⟩
 refine cT e107<|mixt_nil<|cR e107<|J1<|Rq<|OV (EN ty57 rfl (vs := [.int .i64 (s.goes n).p.r, .int .i64 (s.goes n).p.n, .slice D1 (s.goes n).votes.length e1, .int .i64 (s.goes n).index, .slice D2 (s.goes n).image.length e2, .slice D3 (s.goes n).entries.length e3]) rfl (H7.cellsR (i := 3) rfl rfl))<|OQ (EC gf26 rfl) (check_r (s.goes n) D1 e1 D2 e2 D3 e3 _ _ (hw1.toV H7 hkk) (hw2.to H7 hkk) (hw3.toE H7 hkk) (by omega) (by omega)) ?_
 rintro _ w8 ⟨e, rfl, hans, Hd⟩
 have H8 := H7.callN Hd
 refine OT (ex_neq rfl rfl) (fun hp94 => ?_) (fun hp94 => ?_)
 refine Xr e107<|J3 rfl<|Rq<|OV (EN ty27 rfl (vs := [.slice (some a1) b.groups.length k1, .slice A2 b.rights.length k2, .slice A3 b.last.length k3]) rfl (H8.cellsR (i := 0) rfl rfl))<|OS ty27 H8 2 rfl rfl rfl rfl rfl (by first | decide | (simp; done) | simp [putAt]) rfl<|fun w9 H9=>Xa rfl<|Xr e107<|J5<|fin_cell_tmp rfl ty27 (cs := [.slice (some a1) b.groups.length k1, .slice A2 b.rights.length k2, .slice A3 b.last.length k3]) rfl rfl rfl (H9.cellsR (i := 2) rfl rfl)<|⟨_, _, _, _, _, _, _, _, _, false, rfl, (fun b' hb' => by rw [into_no hp14 hs (by cases hc : chk (s.goes n) with | false => rfl | true => exact absurd (hans.1 hc) hp94)] at hb'; cases hb'), fun _ => rfl, (HG.all H9).noRows⟩
 have hchk : chk (s.goes n) = true := by cases hc : chk (s.goes n) with | true => rfl | false => have := hans.2 hc; omega
 refine Xr e107<|J4 rfl<|J6<|Rq<|Xf fl27_0 rfl<|OV (EL ty23 rfl (H8.cell (i := 0) rfl rfl))<|ops_grow Tryz.underlying23 ty57 (by decide) (H8.nil 57) 4 (Gw.nil 6) rfl rfl (rs := pg)  (m := b.groups.length) hgl rfl (hrg.to0 (HG.all H8)) hpg hong (by rw [List.length_nil]; omega) (by rw [List.length_nil]; omega) (by decide)<|fun w9 g2 cap2 sp2 H9 hG2=>?_
 rw [List.nil_append pg] at H9 hG2 ⊢
 rw [hgl]
 obtain ⟨gw, rfl⟩ := own_some H9 (i := 4) rfl (by rw [List.length_append, hpg.len]; omega)
 refine Xa rfl<|Xr e107<|Rq<|Xm rfl<|Xf fl45_1 rfl<|OV (EL ty3 rfl (H9.cell (i := 1) rfl rfl))<|OV (EN ty57 rfl (vs := [.int .i64 (s.goes n).p.r, .int .i64 (s.goes n).p.n, .slice D1 (s.goes n).votes.length e1, .int .i64 (s.goes n).index, .slice D2 (s.goes n).image.length e2, .slice D3 (s.goes n).entries.length e3]) rfl (H9.cellsR (i := 3) rfl rfl))<|cOp e107<|OV (ex_idxN Tryz.underlying23 ty57 rfl rfl (len := b.groups.length) (i := n.group.toNat) (by omega) (by omega))<|OS ty57 H9 4 rfl rfl rfl rfl rfl (by rw [List.length_append, hpg.len]; show 0 + n.group.toNat * 6 + 6 ≤ _; omega) rfl<|fun w10 H10=>?_
 rw [store_elem (sz := 6) (vs := [.int .i64 (s.goes n).p.r, .int .i64 (s.goes n).p.n, .slice D1 (s.goes n).votes.length e1, .int .i64 (s.goes n).index, .slice D2 (s.goes n).image.length e2, .slice D3 (s.goes n).entries.length e3]) hpg (by omega) rfl] at H10
 refine Xr e107<|Rq<|Xm rfl<|Xf fl27_0 rfl<|OW ty23 H10 0 rfl rfl rfl rfl (by first | (simp; done) | simp [putAt]) rfl<|fun w11 H11=>Xr e107<|Rq<|OV (EN ty27 rfl (vs := [.slice (hd (some gw)) b.groups.length cap2, .slice A2 b.rights.length k2, .slice A3 b.last.length k3]) rfl (H11.cellsR (i := 0) rfl rfl))<|OS ty27 H11 2 rfl rfl rfl rfl rfl (by first | decide | (simp; done) | simp [putAt]) rfl<|fun w12 H12=>Xa rfl<|Xr e107<|J5<|fin_cell_tmp rfl ty27 (cs := [.slice (hd (some gw)) b.groups.length cap2, .slice A2 b.rights.length k2, .slice A3 b.last.length k3]) rfl rfl rfl (H12.cellsR (i := 2) rfl rfl) ?_
 have HW := HG.all H12
 refine ⟨_, _, _, _, _, _, _, _, _, true, rfl, fun b' hb' => ?_, (fun h => by rw [into_yes hp14 (by omega) hs hchk] at h; cases h), HW.noRows⟩
 rw [into_yes hp14 (by omega) hs hchk] at hb'
 simp only [Option.some.injEq] at hb'
 subst hb'
 refine ⟨rfl, hd (some gw), cap2, A2, k2, A3, k3, by rw [List.length_set], ?_, hb2.toR HW up_k0, hb3.toM HW up_k0⟩
 exact Sl.row HW (i := 4) rfl (hpg.set_len rfl) (by decide) ((h2g.imp (R' := SvR w12 (up ok w0.heap.size)) fun p x h => h.to HW up_k0).set _ ⟨D1, e1, D2, e2, D3, e3, rfl, hw1.toV H12 hkk, hw2.to H12 hkk, hw3.toE H12 hkk⟩) (row_new (ok := ok) HW (i := 4) rfl (fun _ h => by cases h))
end Go.Proofs.YtbninklfoogmdaaGreat
/- Walks of layer 2, printed by wip/gen/codec.py. -/
namespace Go.Proofs.YtbninklfoogmdaaGreat
open Go Go.RowKit
set_option linter.unusedVariables false
attribute [local irreducible] Still Ops Does Cd
set_option maxRecDepth 100000 in
set_option maxHeartbeats 4000000 in
theorem indexV (A : Option Addr) (c : Nat) (ps : List (List Value)) (n k gc : Nat) (hn : ps.length = n) (pr : List Value → Bool) (w0 : World) (hp : Pl 4 ps) (hr : Rd w0 A ps.length 4 ps.flatten) (hl : ps.length ≤ 4611686018427387904) (hk : Prd Tryz.prog k gc pr ps w0) : Does Tryz.prog 113 #[.slice A n c, .func (.func k) #[] #[.pointer (some ⟨gc, 0, none⟩)]] w0 (fun r w' => ∃ y : Int, r = .int .i64 y ∧ IdxR ps pr y ∧ Hp w0 w' [] []) := by
 refine does_of Tryz.func113 Tryz.ntmps113 rfl<|cR e19 ?_
 subst hn
 have H := Hp.refl w0
 refine Rq<|Xa rfl<|Xr e19<|J1<|Rq<|Xm rfl<|OV (ES Tryz.underlying54 rfl)<|Xm rfl<|Xr e19<|J7<|run_loop (fun nQ lQ w => ∃ (jj : Nat) (y : Int), ps.length - jj = nQ ∧ Fits [some (.slice A ps.length c), some (.func (.func k) #[] #[.pointer (some ⟨gc, 0, none⟩)]), none, none, none, none, none, some (.int .i64 (ps.length : Int)), some (.int .i64 y), none, none, none, none, none, none, none, none, none, none] lQ ∧ y = (jj : Int) ∧ jj ≤ ps.length ∧ (∀ q ∈ ps.take jj, pr q = false) ∧ Hp w0 w [] []) (ps.length) ?_ ?_
 exact ⟨0, _, rfl, (fs (fs (fn (fn (fn (fn (fn (fs (fs (fn (fn (fn (fn (fn (fn (fn (fn (fn (fn f0))))))))))))))))))), rfl, Nat.zero_le _, fun q hq => by simp at hq, H⟩
 rintro nQ lQ w1 ⟨jj, y, rfl, hfit, rfl, hj, hno, H1⟩
 obtain ⟨j, rfl⟩ := hfit.open
 refine cR e19 ?_
 clear hfit
 refine Rq<|OT (ex_lss rfl rfl) (fun hp9 => ?_) (fun hp9 => ?_)
 have hjl : jj < ps.length := by omega
 obtain ⟨p1, hp1⟩ := get_of hjl
 obtain ⟨a1, ha1⟩ := hr.some_ (by omega)
 subst ha1
 refine Xr e19<|J1<|J3 rfl<|J6<|J1<|J7<|Rq<|Xm rfl<|Xa rfl<|Xr e19<|Rq<|Xm rfl<|Xm rfl<|Xm rfl<|OV (EI Tryz.underlying54 ty39 rfl rfl rfl hjl rfl)<|cOp e19<|OV (EN ty39 rfl (vs := p1) (hp.at hp1) ((hr.to0 H1).elem hp hp1))<|OC (ex_call_val hk.1 rfl rfl) (hk.2.2 w1 (H1.frame gc hk.2.1 (by simp)) p1 (mem_of hp1))<|fun w2 Hd=>have H2:=H1.callN Hd;Xr e19<|run_cond rfl (fun hb16 => ?_) (fun hb16 => ?_)
 refine Rq<|Xm rfl<|Xa rfl<|Xr e19<|J5<|BR<|rnd_ret<|BR<|FN1 rfl rfl<|⟨_, rfl, .inr ⟨jj, p1, rfl, hp1, hb16, hno⟩, H2.noRows⟩
 refine J6<|run_nil (blk_normal ?_)
 refine J2<|OV (ex_add rfl rfl (IntWalk.i64_in _ (by omega)))<|Xm rfl<|Xr e19<|run_nil (rnd_normal ?_)
 exact ⟨ps.length - (jj + 1), by omega, jj + 1, _, rfl, (fs (fs (fn (fn (fn (fn (fn (fs (fs (fn (fn (fn (fn (fn (fn (fn (fn (fn (fn f0))))))))))))))))))), by omega, by omega, take_all_snoc hno hp1 hb16, H2⟩
 obtain rfl : jj = ps.length := by omega
 refine Xr e19<|J1<|J4 rfl<|J8<|rnd_exit<|blk_exit<|Rq<|Xa rfl<|Xr e19<|J5<|FN1 rfl rfl<|⟨_, rfl, .inl ⟨rfl, by rw [List.take_length] at hno; exact hno⟩, H1.noRows⟩
set_option maxRecDepth 100000 in
set_option maxHeartbeats 4000000 in
theorem deleteV (g : Option Nat) (cap n : Nat) (ps : List (List Value)) (hn : ps.length = n) (sp : List Value) (k gc : Nat) (pr : List Value → Bool) (w0 : World) (H0 : Hp w0 w0 (bl [((g, 39, ps.flatten ++ sp) : Ent)]) [((g, 39, ps.flatten ++ sp) : Ent)]) (hp : Pl 4 ps) (ho : ∀ p ∈ ps, p.all (·.oneCell') = true) (hl : ps.length ≤ cap) (hl2 : ps.length ≤ 4611686018427387903) (hcz : cap * 4 ≤ (ps.flatten ++ sp).length) (hk : Prd Tryz.prog k gc pr ps w0) (hgc : gc ∉ bl [((g, 39, ps.flatten ++ sp) : Ent)]) : Does Tryz.prog 103 #[.slice (hd g) n cap, .func (.func k) #[] #[.pointer (some ⟨gc, 0, none⟩)]] w0 (fun r w' => ∃ sp', r = .slice (hd g) (ps.filter fun p => !pr p).length cap ∧ ((ps.filter fun p => !pr p).flatten ++ sp').length = (ps.flatten ++ sp).length ∧ Hp w0 w' (bl [((g, 39, ps.flatten ++ sp) : Ent)]) [((g, 39, (ps.filter fun p => !pr p).flatten ++ sp') : Ent)]) := by
 refine does_of Tryz.func103 Tryz.ntmps103 rfl<|cR e42 ?_
 subst hn
 have H := H0
 refine Rq<|Xa rfl<|Xr e42<|Rq<|Xm rfl<|Xm rfl<|OQ (EC gf113 rfl) (indexV (hd g) cap ps _ k gc rfl pr _ hp (H.rd (i := 0) rfl hp.len (by decide)) (by omega) hk) ?_
 rintro r w1 ⟨y, rfl, hix, Hd⟩
 have H1 := H.callN Hd
 refine Xa rfl<|Xr e42<|J1<|Rq<|Xm rfl<|OT (ex_eql rfl rfl) (fun hp12 => ?_) (fun hp12 => ?_)
 have hnone : ∀ p ∈ ps, pr p = false := by
   rcases hix with ⟨_, h⟩ | ⟨jj, p, h, _⟩
   · exact h
   · omega
 refine Xr e42<|J3 rfl<|Rq<|Xm rfl<|Xa rfl<|Xr e42<|J5<|FN1 rfl rfl<|⟨sp, by rw [filter_none hnone], by rw [filter_none hnone], by rw [filter_none hnone]; exact H1⟩
 obtain ⟨j0, p0, rfl, hj0, ht0, hn0⟩ : ∃ (jj : Nat) (p : List Value), y = (jj : Int) ∧ ps[jj]? = some p ∧ pr p = true ∧ ∀ q ∈ ps.take jj, pr q = false := by
   rcases hix with ⟨h, _⟩ | h
   · omega
   · exact h
 have hj0l := lt_of_get hj0
 obtain ⟨gx, rfl⟩ := own_some H1 (i := 0) rfl (by rw [List.length_append, hp.len]; have : 0 < ps.length * 4 := Nat.mul_pos (by omega) (by decide); omega)
 clear hix
 refine Xr e42<|J4 rfl<|J6<|J1<|Rq<|Xm rfl<|OV (ex_add rfl rfl (IntWalk.i64_in _ (by omega)))<|Xa rfl<|Xr e42<|J7<|run_loop (fun nQ lQ w => ∃ (i jj : Nat) (y z : Int) (qs : List (List Value)), ps.length - jj = nQ ∧ Fits [some (.slice (hd (some gx)) ps.length cap), some (.func (.func k) #[] #[.pointer (some ⟨gc, 0, none⟩)]), none, none, none, some (.int .i64 y), some (.int .i64 z), none, none, none, none, none, none, none, none, none, none, none, none, none, none, none, none, none, none, none, none, none, none, none, none, none, none, none, none, none, none, none, none, none, none, none] lQ ∧ y = (i : Int) ∧ z = (jj : Int) ∧ Del ps qs pr i jj 4 ∧ Hp w0 w (bl [((some gx, 39, ps.flatten ++ sp) : Ent)]) [((some gx, 39, qs.flatten ++ sp) : Ent)]) (ps.length - (j0 + 1)) ?_ ?_
 exact ⟨j0, j0 + 1, _, _, ps, rfl, (fs (fs (fn (fn (fn (fs (fs (fn (fn (fn (fn (fn (fn (fn (fn (fn (fn (fn (fn (fn (fn (fn (fn (fn (fn (fn (fn (fn (fn (fn (fn (fn (fn (fn (fn (fn (fn (fn (fn (fn (fn (fn f0)))))))))))))))))))))))))))))))))))))))))), rfl, by omega, Del.start hp hj0 ht0 hn0, H1⟩
 rintro nQ lQ w2 ⟨i, jj, y, z, qs, rfl, hfit, rfl, rfl, hdel, H2⟩
 obtain ⟨j, rfl⟩ := hfit.open
 refine cR e42 ?_
 clear hfit
 have hdl := hdel.lt
 have hde := hdel.le
 have hqn := hdel.len
 refine J1<|Rq<|Xm rfl<|Xm rfl<|OV (ES Tryz.underlying54 rfl)<|OT (ex_lss rfl rfl) (fun hp19 => ?_) (fun hp19 => ?_)
 have hjl : jj < ps.length := by omega
 obtain ⟨p1, hp1⟩ := get_of hjl
 have hq1 : qs[jj]? = some p1 := hdel.at.trans hp1
 refine Xr e42<|J3 rfl<|J6<|J1<|J7<|Rq<|Xm rfl<|Xm rfl<|OV (EI Tryz.underlying54 ty39 rfl rfl rfl hjl rfl)<|OV (EN ty39 rfl (vs := p1) (hp.at hp1) (H2.elem (k := 0) rfl hdel.pl hq1))<|cOp e42<|OA ty39 H2<|fun w3 g3 H3 hg3=>OS ty39 H3 1 rfl rfl rfl rfl (hp.at hp1) (by rw [hp.at hp1]; decide) (ho p1 (mem_of hp1))<|fun w4 H4=>?_
 rw [putAt_all (by rw [hp.at hp1]; rfl)] at H4
 refine Xr e42<|Rq<|Xm rfl<|OV (EN ty39 rfl (vs := p1) (hp.at hp1) (H4.cellsR (i := 1) rfl (by rw [List.drop_zero, List.take_length])))<|OC (ex_call_val hk.1 rfl rfl) (hk.2.2 w4 (H4.frame gc hk.2.1 hgc) p1 (mem_of hp1))<|fun w5 Hd=>have H5:=H4.callN Hd;Xn rfl<|Xr e42<|run_cond rfl (fun hb29 => ?_) (fun hb29 => ?_)
 refine Rq<|Xm rfl<|Xm rfl<|OV (EN ty39 rfl (vs := p1) (hp.at hp1) (H5.cellsR (i := 1) rfl (by rw [List.drop_zero, List.take_length])))<|OV (ex_idxN Tryz.underlying54 ty39 rfl rfl rfl (by omega))<|cOp e42<|OS ty39 H5 0 rfl rfl rfl rfl (hp.at hp1) (by rw [hp.at hp1, List.length_append, hdel.pl.len, Nat.zero_add]; have : (i + 1) * 4 ≤ qs.length * 4 := Nat.mul_le_mul_right _ (by omega); omega) (ho p1 (mem_of hp1))<|fun w6 H6=>?_
 rw [Nat.zero_add, putAt_left (by rw [hp.at hp1, hdel.pl.len]; have : (i + 1) * 4 ≤ qs.length * 4 := Nat.mul_le_mul_right _ (by omega); omega), hdel.pl.set_ (by omega) (hp.at hp1)] at H6
 refine Xr e42<|J2<|Xm rfl<|OV (ex_add rfl rfl (IntWalk.i64_in _ (by omega)))<|Xa rfl<|Xr e42<|run_nil (blk_normal ?_)
 refine J2<|Xm rfl<|OV (ex_add rfl rfl (IntWalk.i64_in _ (by omega)))<|Xa rfl<|Xr e42<|run_nil (rnd_normal ?_)
 exact ⟨ps.length - (jj + 1), by omega, i + 1, jj + 1, _, _, qs.set i p1, rfl, (fs (fs (fn (fn (fn (fs (fs (fn (fn (fn (fn (fn (fn (fn (fn (fn (fn (fn (fn (fn (fn (fn (fn (fn (fn (fn (fn (fn (fn (fn (fn (fn (fn (fn (fn (fn (fn (fn (fn (fn (fn (fn f0)))))))))))))))))))))))))))))))))))))))))), by omega, by omega, hdel.keep hp1 (by simpa using hb29) (hp.at hp1), H6.pick [0] (by decide)⟩
 refine J6<|run_nil (blk_normal ?_)
 refine J2<|Xm rfl<|OV (ex_add rfl rfl (IntWalk.i64_in _ (by omega)))<|Xa rfl<|Xr e42<|run_nil (rnd_normal ?_)
 exact ⟨ps.length - (jj + 1), by omega, i, jj + 1, _, _, qs, rfl, (fs (fs (fn (fn (fn (fs (fs (fn (fn (fn (fn (fn (fn (fn (fn (fn (fn (fn (fn (fn (fn (fn (fn (fn (fn (fn (fn (fn (fn (fn (fn (fn (fn (fn (fn (fn (fn (fn (fn (fn (fn (fn f0)))))))))))))))))))))))))))))))))))))))))), rfl, by omega, hdel.skip hp1 (by simpa using hb29), H5.pick [0] (by decide)⟩
 obtain rfl : jj = ps.length := by omega
 refine Xr e42<|J4 rfl<|J8<|rnd_exit<|blk_exit<|Rq<|Xm rfl<|Xm rfl ?_
 have hdn := hdel.done
 refine OV (ex_lo Tryz.underlying54 ty39 rfl rfl rfl (by omega) (by omega)) ?_
 rw [addn]
 have hfit : 0 + i * 4 + (ps.length - i) * 4 ≤ (qs.flatten ++ sp).length := by
   rw [List.length_append, hdel.pl.len, hqn, Nat.zero_add, ← Nat.add_mul, show i + (ps.length - i) = ps.length by omega]; omega
 refine ops_clear Tryz.underlying54 ty39 H2 0 rfl rfl hfit rfl<|fun w3 H3=>Xr e42<|Rq<|Xm rfl<|Xm rfl<|OV (ex_hi Tryz.underlying54 ty39 rfl rfl rfl (by omega))<|Xa rfl<|Xr e42<|J5<|FN1 rfl rfl ?_
 have hpl := putAt_len (cs := qs.flatten ++ sp) (vs := initL [.int .i64 0, .int .i64 0, .int .i64 0, .slice none 0 0] (ps.length - i)) (o := 0 + i * 4) (by rw [initL_length]; exact hfit)
 rw [hdel.cells rfl] at hpl
 have HZ := H3
 change Hp _ _ _ [((some gx, 39, putAt (qs.flatten ++ sp) (0 + i * 4) _) : Ent)] at HZ
 rw [hdel.cells rfl] at HZ
 refine ⟨_, by rw [hdn.2], ?_, HZ⟩
 rw [hpl, List.length_append, List.length_append, hdel.pl.len, hp.len, hqn]
set_option maxRecDepth 100000 in
set_option maxHeartbeats 4000000 in
theorem indexE (A : Option Addr) (c : Nat) (ps : List (List Value)) (n k gc : Nat) (hn : ps.length = n) (pr : List Value → Bool) (w0 : World) (hp : Pl 2 ps) (hr : Rd w0 A ps.length 2 ps.flatten) (hl : ps.length ≤ 4611686018427387904) (hk : Prd Tryz.prog k gc pr ps w0) : Does Tryz.prog 105 #[.slice A n c, .func (.func k) #[] #[.pointer (some ⟨gc, 0, none⟩)]] w0 (fun r w' => ∃ y : Int, r = .int .i64 y ∧ IdxR ps pr y ∧ Hp w0 w' [] []) := by
 refine does_of Tryz.func105 Tryz.ntmps105 rfl<|cR e19 ?_
 subst hn
 have H := Hp.refl w0
 refine Rq<|Xa rfl<|Xr e19<|J1<|Rq<|Xm rfl<|OV (ES Tryz.underlying55 rfl)<|Xm rfl<|Xr e19<|J7<|run_loop (fun nQ lQ w => ∃ (jj : Nat) (y : Int), ps.length - jj = nQ ∧ Fits [some (.slice A ps.length c), some (.func (.func k) #[] #[.pointer (some ⟨gc, 0, none⟩)]), none, none, none, none, none, some (.int .i64 (ps.length : Int)), some (.int .i64 y), none, none, none, none, none, none, none, none, none, none] lQ ∧ y = (jj : Int) ∧ jj ≤ ps.length ∧ (∀ q ∈ ps.take jj, pr q = false) ∧ Hp w0 w [] []) (ps.length) ?_ ?_
 exact ⟨0, _, rfl, (fs (fs (fn (fn (fn (fn (fn (fs (fs (fn (fn (fn (fn (fn (fn (fn (fn (fn (fn f0))))))))))))))))))), rfl, Nat.zero_le _, fun q hq => by simp at hq, H⟩
 rintro nQ lQ w1 ⟨jj, y, rfl, hfit, rfl, hj, hno, H1⟩
 obtain ⟨j, rfl⟩ := hfit.open
 refine cR e19 ?_
 clear hfit
 refine Rq<|OT (ex_lss rfl rfl) (fun hp9 => ?_) (fun hp9 => ?_)
 have hjl : jj < ps.length := by omega
 obtain ⟨p1, hp1⟩ := get_of hjl
 obtain ⟨a1, ha1⟩ := hr.some_ (by omega)
 subst ha1
 refine Xr e19<|J1<|J3 rfl<|J6<|J1<|J7<|Rq<|Xm rfl<|Xa rfl<|Xr e19<|Rq<|Xm rfl<|Xm rfl<|Xm rfl<|OV (EI Tryz.underlying55 ty41 rfl rfl rfl hjl rfl)<|cOp e19<|OV (EN ty41 rfl (vs := p1) (hp.at hp1) ((hr.to0 H1).elem hp hp1))<|OC (ex_call_val hk.1 rfl rfl) (hk.2.2 w1 (H1.frame gc hk.2.1 (by simp)) p1 (mem_of hp1))<|fun w2 Hd=>have H2:=H1.callN Hd;Xr e19<|run_cond rfl (fun hb16 => ?_) (fun hb16 => ?_)
 refine Rq<|Xm rfl<|Xa rfl<|Xr e19<|J5<|BR<|rnd_ret<|BR<|FN1 rfl rfl<|⟨_, rfl, .inr ⟨jj, p1, rfl, hp1, hb16, hno⟩, H2.noRows⟩
 refine J6<|run_nil (blk_normal ?_)
 refine J2<|OV (ex_add rfl rfl (IntWalk.i64_in _ (by omega)))<|Xm rfl<|Xr e19<|run_nil (rnd_normal ?_)
 exact ⟨ps.length - (jj + 1), by omega, jj + 1, _, rfl, (fs (fs (fn (fn (fn (fn (fn (fs (fs (fn (fn (fn (fn (fn (fn (fn (fn (fn (fn f0))))))))))))))))))), by omega, by omega, take_all_snoc hno hp1 hb16, H2⟩
 obtain rfl : jj = ps.length := by omega
 refine Xr e19<|J1<|J4 rfl<|J8<|rnd_exit<|blk_exit<|Rq<|Xa rfl<|Xr e19<|J5<|FN1 rfl rfl<|⟨_, rfl, .inl ⟨rfl, by rw [List.take_length] at hno; exact hno⟩, H1.noRows⟩
set_option maxRecDepth 100000 in
set_option maxHeartbeats 4000000 in
theorem deleteE (g : Option Nat) (cap n : Nat) (ps : List (List Value)) (hn : ps.length = n) (sp : List Value) (k gc : Nat) (pr : List Value → Bool) (w0 : World) (H0 : Hp w0 w0 (bl [((g, 41, ps.flatten ++ sp) : Ent)]) [((g, 41, ps.flatten ++ sp) : Ent)]) (hp : Pl 2 ps) (ho : ∀ p ∈ ps, p.all (·.oneCell') = true) (hl : ps.length ≤ cap) (hl2 : ps.length ≤ 4611686018427387903) (hcz : cap * 2 ≤ (ps.flatten ++ sp).length) (hk : Prd Tryz.prog k gc pr ps w0) (hgc : gc ∉ bl [((g, 41, ps.flatten ++ sp) : Ent)]) : Does Tryz.prog 90 #[.slice (hd g) n cap, .func (.func k) #[] #[.pointer (some ⟨gc, 0, none⟩)]] w0 (fun r w' => ∃ sp', r = .slice (hd g) (ps.filter fun p => !pr p).length cap ∧ ((ps.filter fun p => !pr p).flatten ++ sp').length = (ps.flatten ++ sp).length ∧ Hp w0 w' (bl [((g, 41, ps.flatten ++ sp) : Ent)]) [((g, 41, (ps.filter fun p => !pr p).flatten ++ sp') : Ent)]) := by
 refine does_of Tryz.func90 Tryz.ntmps90 rfl<|cR e42 ?_
 subst hn
 have H := H0
 refine Rq<|Xa rfl<|Xr e42<|Rq<|Xm rfl<|Xm rfl<|OQ (EC gf105 rfl) (indexE (hd g) cap ps _ k gc rfl pr _ hp (H.rd (i := 0) rfl hp.len (by decide)) (by omega) hk) ?_
 rintro r w1 ⟨y, rfl, hix, Hd⟩
 have H1 := H.callN Hd
 refine Xa rfl<|Xr e42<|J1<|Rq<|Xm rfl<|OT (ex_eql rfl rfl) (fun hp12 => ?_) (fun hp12 => ?_)
 have hnone : ∀ p ∈ ps, pr p = false := by
   rcases hix with ⟨_, h⟩ | ⟨jj, p, h, _⟩
   · exact h
   · omega
 refine Xr e42<|J3 rfl<|Rq<|Xm rfl<|Xa rfl<|Xr e42<|J5<|FN1 rfl rfl<|⟨sp, by rw [filter_none hnone], by rw [filter_none hnone], by rw [filter_none hnone]; exact H1⟩
 obtain ⟨j0, p0, rfl, hj0, ht0, hn0⟩ : ∃ (jj : Nat) (p : List Value), y = (jj : Int) ∧ ps[jj]? = some p ∧ pr p = true ∧ ∀ q ∈ ps.take jj, pr q = false := by
   rcases hix with ⟨h, _⟩ | h
   · omega
   · exact h
 have hj0l := lt_of_get hj0
 obtain ⟨gx, rfl⟩ := own_some H1 (i := 0) rfl (by rw [List.length_append, hp.len]; have : 0 < ps.length * 2 := Nat.mul_pos (by omega) (by decide); omega)
 clear hix
 refine Xr e42<|J4 rfl<|J6<|J1<|Rq<|Xm rfl<|OV (ex_add rfl rfl (IntWalk.i64_in _ (by omega)))<|Xa rfl<|Xr e42<|J7<|run_loop (fun nQ lQ w => ∃ (i jj : Nat) (y z : Int) (qs : List (List Value)), ps.length - jj = nQ ∧ Fits [some (.slice (hd (some gx)) ps.length cap), some (.func (.func k) #[] #[.pointer (some ⟨gc, 0, none⟩)]), none, none, none, some (.int .i64 y), some (.int .i64 z), none, none, none, none, none, none, none, none, none, none, none, none, none, none, none, none, none, none, none, none, none, none, none, none, none, none, none, none, none, none, none, none, none, none, none] lQ ∧ y = (i : Int) ∧ z = (jj : Int) ∧ Del ps qs pr i jj 2 ∧ Hp w0 w (bl [((some gx, 41, ps.flatten ++ sp) : Ent)]) [((some gx, 41, qs.flatten ++ sp) : Ent)]) (ps.length - (j0 + 1)) ?_ ?_
 exact ⟨j0, j0 + 1, _, _, ps, rfl, (fs (fs (fn (fn (fn (fs (fs (fn (fn (fn (fn (fn (fn (fn (fn (fn (fn (fn (fn (fn (fn (fn (fn (fn (fn (fn (fn (fn (fn (fn (fn (fn (fn (fn (fn (fn (fn (fn (fn (fn (fn (fn f0)))))))))))))))))))))))))))))))))))))))))), rfl, by omega, Del.start hp hj0 ht0 hn0, H1⟩
 rintro nQ lQ w2 ⟨i, jj, y, z, qs, rfl, hfit, rfl, rfl, hdel, H2⟩
 obtain ⟨j, rfl⟩ := hfit.open
 refine cR e42 ?_
 clear hfit
 have hdl := hdel.lt
 have hde := hdel.le
 have hqn := hdel.len
 refine J1<|Rq<|Xm rfl<|Xm rfl<|OV (ES Tryz.underlying55 rfl)<|OT (ex_lss rfl rfl) (fun hp19 => ?_) (fun hp19 => ?_)
 have hjl : jj < ps.length := by omega
 obtain ⟨p1, hp1⟩ := get_of hjl
 have hq1 : qs[jj]? = some p1 := hdel.at.trans hp1
 refine Xr e42<|J3 rfl<|J6<|J1<|J7<|Rq<|Xm rfl<|Xm rfl<|OV (EI Tryz.underlying55 ty41 rfl rfl rfl hjl rfl)<|OV (EN ty41 rfl (vs := p1) (hp.at hp1) (H2.elem (k := 0) rfl hdel.pl hq1))<|cOp e42<|OA ty41 H2<|fun w3 g3 H3 hg3=>OS ty41 H3 1 rfl rfl rfl rfl (hp.at hp1) (by rw [hp.at hp1]; decide) (ho p1 (mem_of hp1))<|fun w4 H4=>?_
 rw [putAt_all (by rw [hp.at hp1]; rfl)] at H4
 refine Xr e42<|Rq<|Xm rfl<|OV (EN ty41 rfl (vs := p1) (hp.at hp1) (H4.cellsR (i := 1) rfl (by rw [List.drop_zero, List.take_length])))<|OC (ex_call_val hk.1 rfl rfl) (hk.2.2 w4 (H4.frame gc hk.2.1 hgc) p1 (mem_of hp1))<|fun w5 Hd=>have H5:=H4.callN Hd;Xn rfl<|Xr e42<|run_cond rfl (fun hb29 => ?_) (fun hb29 => ?_)
 refine Rq<|Xm rfl<|Xm rfl<|OV (EN ty41 rfl (vs := p1) (hp.at hp1) (H5.cellsR (i := 1) rfl (by rw [List.drop_zero, List.take_length])))<|OV (ex_idxN Tryz.underlying55 ty41 rfl rfl rfl (by omega))<|cOp e42<|OS ty41 H5 0 rfl rfl rfl rfl (hp.at hp1) (by rw [hp.at hp1, List.length_append, hdel.pl.len, Nat.zero_add]; have : (i + 1) * 2 ≤ qs.length * 2 := Nat.mul_le_mul_right _ (by omega); omega) (ho p1 (mem_of hp1))<|fun w6 H6=>?_
 rw [Nat.zero_add, putAt_left (by rw [hp.at hp1, hdel.pl.len]; have : (i + 1) * 2 ≤ qs.length * 2 := Nat.mul_le_mul_right _ (by omega); omega), hdel.pl.set_ (by omega) (hp.at hp1)] at H6
 refine Xr e42<|J2<|Xm rfl<|OV (ex_add rfl rfl (IntWalk.i64_in _ (by omega)))<|Xa rfl<|Xr e42<|run_nil (blk_normal ?_)
 refine J2<|Xm rfl<|OV (ex_add rfl rfl (IntWalk.i64_in _ (by omega)))<|Xa rfl<|Xr e42<|run_nil (rnd_normal ?_)
 exact ⟨ps.length - (jj + 1), by omega, i + 1, jj + 1, _, _, qs.set i p1, rfl, (fs (fs (fn (fn (fn (fs (fs (fn (fn (fn (fn (fn (fn (fn (fn (fn (fn (fn (fn (fn (fn (fn (fn (fn (fn (fn (fn (fn (fn (fn (fn (fn (fn (fn (fn (fn (fn (fn (fn (fn (fn (fn f0)))))))))))))))))))))))))))))))))))))))))), by omega, by omega, hdel.keep hp1 (by simpa using hb29) (hp.at hp1), H6.pick [0] (by decide)⟩
 refine J6<|run_nil (blk_normal ?_)
 refine J2<|Xm rfl<|OV (ex_add rfl rfl (IntWalk.i64_in _ (by omega)))<|Xa rfl<|Xr e42<|run_nil (rnd_normal ?_)
 exact ⟨ps.length - (jj + 1), by omega, i, jj + 1, _, _, qs, rfl, (fs (fs (fn (fn (fn (fs (fs (fn (fn (fn (fn (fn (fn (fn (fn (fn (fn (fn (fn (fn (fn (fn (fn (fn (fn (fn (fn (fn (fn (fn (fn (fn (fn (fn (fn (fn (fn (fn (fn (fn (fn (fn f0)))))))))))))))))))))))))))))))))))))))))), rfl, by omega, hdel.skip hp1 (by simpa using hb29), H5.pick [0] (by decide)⟩
 obtain rfl : jj = ps.length := by omega
 refine Xr e42<|J4 rfl<|J8<|rnd_exit<|blk_exit<|Rq<|Xm rfl<|Xm rfl ?_
 have hdn := hdel.done
 refine OV (ex_lo Tryz.underlying55 ty41 rfl rfl rfl (by omega) (by omega)) ?_
 rw [addn]
 have hfit : 0 + i * 2 + (ps.length - i) * 2 ≤ (qs.flatten ++ sp).length := by
   rw [List.length_append, hdel.pl.len, hqn, Nat.zero_add, ← Nat.add_mul, show i + (ps.length - i) = ps.length by omega]; omega
 refine ops_clear Tryz.underlying55 ty41 H2 0 rfl rfl hfit rfl<|fun w3 H3=>Xr e42<|Rq<|Xm rfl<|Xm rfl<|OV (ex_hi Tryz.underlying55 ty41 rfl rfl rfl (by omega))<|Xa rfl<|Xr e42<|J5<|FN1 rfl rfl ?_
 have hpl := putAt_len (cs := qs.flatten ++ sp) (vs := initL [.int .i64 0, .slice none 0 0] (ps.length - i)) (o := 0 + i * 2) (by rw [initL_length]; exact hfit)
 rw [hdel.cells rfl] at hpl
 have HZ := H3
 change Hp _ _ _ [((some gx, 41, putAt (qs.flatten ++ sp) (0 + i * 2) _) : Ent)] at HZ
 rw [hdel.cells rfl] at HZ
 refine ⟨_, by rw [hdn.2], ?_, HZ⟩
 rw [hpl, List.length_append, List.length_append, hdel.pl.len, hp.len, hqn]
set_option maxRecDepth 100000 in
set_option maxHeartbeats 4000000 in
theorem indexM (A : Option Addr) (c : Nat) (ps : List (List Value)) (n k gc : Nat) (hn : ps.length = n) (pr : List Value → Bool) (w0 : World) (hp : Pl 7 ps) (hr : Rd w0 A ps.length 7 ps.flatten) (hl : ps.length ≤ 4611686018427387904) (hk : Prd Tryz.prog k gc pr ps w0) : Does Tryz.prog 81 #[.slice A n c, .func (.func k) #[] #[.pointer (some ⟨gc, 0, none⟩)]] w0 (fun r w' => ∃ y : Int, r = .int .i64 y ∧ IdxR ps pr y ∧ Hp w0 w' [] []) := by
 refine does_of Tryz.func81 Tryz.ntmps81 rfl<|cR e19 ?_
 subst hn
 have H := Hp.refl w0
 refine Rq<|Xa rfl<|Xr e19<|J1<|Rq<|Xm rfl<|OV (ES Tryz.underlying25 rfl)<|Xm rfl<|Xr e19<|J7<|run_loop (fun nQ lQ w => ∃ (jj : Nat) (y : Int), ps.length - jj = nQ ∧ Fits [some (.slice A ps.length c), some (.func (.func k) #[] #[.pointer (some ⟨gc, 0, none⟩)]), none, none, none, none, none, some (.int .i64 (ps.length : Int)), some (.int .i64 y), none, none, none, none, none, none, none, none, none, none] lQ ∧ y = (jj : Int) ∧ jj ≤ ps.length ∧ (∀ q ∈ ps.take jj, pr q = false) ∧ Hp w0 w [] []) (ps.length) ?_ ?_
 exact ⟨0, _, rfl, (fs (fs (fn (fn (fn (fn (fn (fs (fs (fn (fn (fn (fn (fn (fn (fn (fn (fn (fn f0))))))))))))))))))), rfl, Nat.zero_le _, fun q hq => by simp at hq, H⟩
 rintro nQ lQ w1 ⟨jj, y, rfl, hfit, rfl, hj, hno, H1⟩
 obtain ⟨j, rfl⟩ := hfit.open
 refine cR e19 ?_
 clear hfit
 refine Rq<|OT (ex_lss rfl rfl) (fun hp9 => ?_) (fun hp9 => ?_)
 have hjl : jj < ps.length := by omega
 obtain ⟨p1, hp1⟩ := get_of hjl
 obtain ⟨a1, ha1⟩ := hr.some_ (by omega)
 subst ha1
 refine Xr e19<|J1<|J3 rfl<|J6<|J1<|J7<|Rq<|Xm rfl<|Xa rfl<|Xr e19<|Rq<|Xm rfl<|Xm rfl<|Xm rfl<|OV (EI Tryz.underlying25 ty63 rfl rfl rfl hjl rfl)<|cOp e19<|OV (EN ty63 rfl (vs := p1) (hp.at hp1) ((hr.to0 H1).elem hp hp1))<|OC (ex_call_val hk.1 rfl rfl) (hk.2.2 w1 (H1.frame gc hk.2.1 (by simp)) p1 (mem_of hp1))<|fun w2 Hd=>have H2:=H1.callN Hd;Xr e19<|run_cond rfl (fun hb16 => ?_) (fun hb16 => ?_)
 refine Rq<|Xm rfl<|Xa rfl<|Xr e19<|J5<|BR<|rnd_ret<|BR<|FN1 rfl rfl<|⟨_, rfl, .inr ⟨jj, p1, rfl, hp1, hb16, hno⟩, H2.noRows⟩
 refine J6<|run_nil (blk_normal ?_)
 refine J2<|OV (ex_add rfl rfl (IntWalk.i64_in _ (by omega)))<|Xm rfl<|Xr e19<|run_nil (rnd_normal ?_)
 exact ⟨ps.length - (jj + 1), by omega, jj + 1, _, rfl, (fs (fs (fn (fn (fn (fn (fn (fs (fs (fn (fn (fn (fn (fn (fn (fn (fn (fn (fn f0))))))))))))))))))), by omega, by omega, take_all_snoc hno hp1 hb16, H2⟩
 obtain rfl : jj = ps.length := by omega
 refine Xr e19<|J1<|J4 rfl<|J8<|rnd_exit<|blk_exit<|Rq<|Xa rfl<|Xr e19<|J5<|FN1 rfl rfl<|⟨_, rfl, .inl ⟨rfl, by rw [List.take_length] at hno; exact hno⟩, H1.noRows⟩
set_option maxRecDepth 100000 in
set_option maxHeartbeats 4000000 in
theorem deleteM (g : Option Nat) (cap n : Nat) (ps : List (List Value)) (hn : ps.length = n) (sp : List Value) (k gc : Nat) (pr : List Value → Bool) (w0 : World) (H0 : Hp w0 w0 (bl [((g, 63, ps.flatten ++ sp) : Ent)]) [((g, 63, ps.flatten ++ sp) : Ent)]) (hp : Pl 7 ps) (ho : ∀ p ∈ ps, p.all (·.oneCell') = true) (hl : ps.length ≤ cap) (hl2 : ps.length ≤ 4611686018427387903) (hcz : cap * 7 ≤ (ps.flatten ++ sp).length) (hk : Prd Tryz.prog k gc pr ps w0) (hgc : gc ∉ bl [((g, 63, ps.flatten ++ sp) : Ent)]) : Does Tryz.prog 58 #[.slice (hd g) n cap, .func (.func k) #[] #[.pointer (some ⟨gc, 0, none⟩)]] w0 (fun r w' => ∃ sp', r = .slice (hd g) (ps.filter fun p => !pr p).length cap ∧ ((ps.filter fun p => !pr p).flatten ++ sp').length = (ps.flatten ++ sp).length ∧ Hp w0 w' (bl [((g, 63, ps.flatten ++ sp) : Ent)]) [((g, 63, (ps.filter fun p => !pr p).flatten ++ sp') : Ent)]) := by
 refine does_of Tryz.func58 Tryz.ntmps58 rfl<|cR e42 ?_
 subst hn
 have H := H0
 refine Rq<|Xa rfl<|Xr e42<|Rq<|Xm rfl<|Xm rfl<|OQ (EC gf81 rfl) (indexM (hd g) cap ps _ k gc rfl pr _ hp (H.rd (i := 0) rfl hp.len (by decide)) (by omega) hk) ?_
 rintro r w1 ⟨y, rfl, hix, Hd⟩
 have H1 := H.callN Hd
 refine Xa rfl<|Xr e42<|J1<|Rq<|Xm rfl<|OT (ex_eql rfl rfl) (fun hp12 => ?_) (fun hp12 => ?_)
 have hnone : ∀ p ∈ ps, pr p = false := by
   rcases hix with ⟨_, h⟩ | ⟨jj, p, h, _⟩
   · exact h
   · omega
 refine Xr e42<|J3 rfl<|Rq<|Xm rfl<|Xa rfl<|Xr e42<|J5<|FN1 rfl rfl<|⟨sp, by rw [filter_none hnone], by rw [filter_none hnone], by rw [filter_none hnone]; exact H1⟩
 obtain ⟨j0, p0, rfl, hj0, ht0, hn0⟩ : ∃ (jj : Nat) (p : List Value), y = (jj : Int) ∧ ps[jj]? = some p ∧ pr p = true ∧ ∀ q ∈ ps.take jj, pr q = false := by
   rcases hix with ⟨h, _⟩ | h
   · omega
   · exact h
 have hj0l := lt_of_get hj0
 obtain ⟨gx, rfl⟩ := own_some H1 (i := 0) rfl (by rw [List.length_append, hp.len]; have : 0 < ps.length * 7 := Nat.mul_pos (by omega) (by decide); omega)
 clear hix
 refine Xr e42<|J4 rfl<|J6<|J1<|Rq<|Xm rfl<|OV (ex_add rfl rfl (IntWalk.i64_in _ (by omega)))<|Xa rfl<|Xr e42<|J7<|run_loop (fun nQ lQ w => ∃ (i jj : Nat) (y z : Int) (qs : List (List Value)), ps.length - jj = nQ ∧ Fits [some (.slice (hd (some gx)) ps.length cap), some (.func (.func k) #[] #[.pointer (some ⟨gc, 0, none⟩)]), none, none, none, some (.int .i64 y), some (.int .i64 z), none, none, none, none, none, none, none, none, none, none, none, none, none, none, none, none, none, none, none, none, none, none, none, none, none, none, none, none, none, none, none, none, none, none, none] lQ ∧ y = (i : Int) ∧ z = (jj : Int) ∧ Del ps qs pr i jj 7 ∧ Hp w0 w (bl [((some gx, 63, ps.flatten ++ sp) : Ent)]) [((some gx, 63, qs.flatten ++ sp) : Ent)]) (ps.length - (j0 + 1)) ?_ ?_
 exact ⟨j0, j0 + 1, _, _, ps, rfl, (fs (fs (fn (fn (fn (fs (fs (fn (fn (fn (fn (fn (fn (fn (fn (fn (fn (fn (fn (fn (fn (fn (fn (fn (fn (fn (fn (fn (fn (fn (fn (fn (fn (fn (fn (fn (fn (fn (fn (fn (fn (fn f0)))))))))))))))))))))))))))))))))))))))))), rfl, by omega, Del.start hp hj0 ht0 hn0, H1⟩
 rintro nQ lQ w2 ⟨i, jj, y, z, qs, rfl, hfit, rfl, rfl, hdel, H2⟩
 obtain ⟨j, rfl⟩ := hfit.open
 refine cR e42 ?_
 clear hfit
 have hdl := hdel.lt
 have hde := hdel.le
 have hqn := hdel.len
 refine J1<|Rq<|Xm rfl<|Xm rfl<|OV (ES Tryz.underlying25 rfl)<|OT (ex_lss rfl rfl) (fun hp19 => ?_) (fun hp19 => ?_)
 have hjl : jj < ps.length := by omega
 obtain ⟨p1, hp1⟩ := get_of hjl
 have hq1 : qs[jj]? = some p1 := hdel.at.trans hp1
 refine Xr e42<|J3 rfl<|J6<|J1<|J7<|Rq<|Xm rfl<|Xm rfl<|OV (EI Tryz.underlying25 ty63 rfl rfl rfl hjl rfl)<|OV (EN ty63 rfl (vs := p1) (hp.at hp1) (H2.elem (k := 0) rfl hdel.pl hq1))<|cOp e42<|OA ty63 H2<|fun w3 g3 H3 hg3=>OS ty63 H3 1 rfl rfl rfl rfl (hp.at hp1) (by rw [hp.at hp1]; decide) (ho p1 (mem_of hp1))<|fun w4 H4=>?_
 rw [putAt_all (by rw [hp.at hp1]; rfl)] at H4
 refine Xr e42<|Rq<|Xm rfl<|OV (EN ty63 rfl (vs := p1) (hp.at hp1) (H4.cellsR (i := 1) rfl (by rw [List.drop_zero, List.take_length])))<|OC (ex_call_val hk.1 rfl rfl) (hk.2.2 w4 (H4.frame gc hk.2.1 hgc) p1 (mem_of hp1))<|fun w5 Hd=>have H5:=H4.callN Hd;Xn rfl<|Xr e42<|run_cond rfl (fun hb29 => ?_) (fun hb29 => ?_)
 refine Rq<|Xm rfl<|Xm rfl<|OV (EN ty63 rfl (vs := p1) (hp.at hp1) (H5.cellsR (i := 1) rfl (by rw [List.drop_zero, List.take_length])))<|OV (ex_idxN Tryz.underlying25 ty63 rfl rfl rfl (by omega))<|cOp e42<|OS ty63 H5 0 rfl rfl rfl rfl (hp.at hp1) (by rw [hp.at hp1, List.length_append, hdel.pl.len, Nat.zero_add]; have : (i + 1) * 7 ≤ qs.length * 7 := Nat.mul_le_mul_right _ (by omega); omega) (ho p1 (mem_of hp1))<|fun w6 H6=>?_
 rw [Nat.zero_add, putAt_left (by rw [hp.at hp1, hdel.pl.len]; have : (i + 1) * 7 ≤ qs.length * 7 := Nat.mul_le_mul_right _ (by omega); omega), hdel.pl.set_ (by omega) (hp.at hp1)] at H6
 refine Xr e42<|J2<|Xm rfl<|OV (ex_add rfl rfl (IntWalk.i64_in _ (by omega)))<|Xa rfl<|Xr e42<|run_nil (blk_normal ?_)
 refine J2<|Xm rfl<|OV (ex_add rfl rfl (IntWalk.i64_in _ (by omega)))<|Xa rfl<|Xr e42<|run_nil (rnd_normal ?_)
 exact ⟨ps.length - (jj + 1), by omega, i + 1, jj + 1, _, _, qs.set i p1, rfl, (fs (fs (fn (fn (fn (fs (fs (fn (fn (fn (fn (fn (fn (fn (fn (fn (fn (fn (fn (fn (fn (fn (fn (fn (fn (fn (fn (fn (fn (fn (fn (fn (fn (fn (fn (fn (fn (fn (fn (fn (fn (fn f0)))))))))))))))))))))))))))))))))))))))))), by omega, by omega, hdel.keep hp1 (by simpa using hb29) (hp.at hp1), H6.pick [0] (by decide)⟩
 refine J6<|run_nil (blk_normal ?_)
 refine J2<|Xm rfl<|OV (ex_add rfl rfl (IntWalk.i64_in _ (by omega)))<|Xa rfl<|Xr e42<|run_nil (rnd_normal ?_)
 exact ⟨ps.length - (jj + 1), by omega, i, jj + 1, _, _, qs, rfl, (fs (fs (fn (fn (fn (fs (fs (fn (fn (fn (fn (fn (fn (fn (fn (fn (fn (fn (fn (fn (fn (fn (fn (fn (fn (fn (fn (fn (fn (fn (fn (fn (fn (fn (fn (fn (fn (fn (fn (fn (fn (fn f0)))))))))))))))))))))))))))))))))))))))))), rfl, by omega, hdel.skip hp1 (by simpa using hb29), H5.pick [0] (by decide)⟩
 obtain rfl : jj = ps.length := by omega
 refine Xr e42<|J4 rfl<|J8<|rnd_exit<|blk_exit<|Rq<|Xm rfl<|Xm rfl ?_
 have hdn := hdel.done
 refine OV (ex_lo Tryz.underlying25 ty63 rfl rfl rfl (by omega) (by omega)) ?_
 rw [addn]
 have hfit : 0 + i * 7 + (ps.length - i) * 7 ≤ (qs.flatten ++ sp).length := by
   rw [List.length_append, hdel.pl.len, hqn, Nat.zero_add, ← Nat.add_mul, show i + (ps.length - i) = ps.length by omega]; omega
 refine ops_clear Tryz.underlying25 ty63 H2 0 rfl rfl hfit rfl<|fun w3 H3=>Xr e42<|Rq<|Xm rfl<|Xm rfl<|OV (ex_hi Tryz.underlying25 ty63 rfl rfl rfl (by omega))<|Xa rfl<|Xr e42<|J5<|FN1 rfl rfl ?_
 have hpl := putAt_len (cs := qs.flatten ++ sp) (vs := initL [.int .i64 0, .int .i64 0, .bool false, .int .i64 0, .int .i64 0, .int .i64 0, .int .i64 0] (ps.length - i)) (o := 0 + i * 7) (by rw [initL_length]; exact hfit)
 rw [hdel.cells rfl] at hpl
 have HZ := H3
 change Hp _ _ _ [((some gx, 63, putAt (qs.flatten ++ sp) (0 + i * 7) _) : Ent)] at HZ
 rw [hdel.cells rfl] at HZ
 refine ⟨_, by rw [hdn.2], ?_, HZ⟩
 rw [hpl, List.length_append, List.length_append, hdel.pl.len, hp.len, hqn]
end Go.Proofs.YtbninklfoogmdaaGreat
/- Walks of layer 2, printed by wip/gen/codec.py. -/
namespace Go.Proofs.YtbninklfoogmdaaGreat
open Go Go.RowKit
set_option linter.unusedVariables false
attribute [local irreducible] Still Ops Does Cd
set_option maxRecDepth 100000 in
set_option maxHeartbeats 4000000 in
theorem bsearchV (A : Option Addr) (c : Nat) (ps : List (List Value)) (n : Nat) (hn : ps.length = n) (k : FuncId) (tn : Int) (cf : List Value → Int) (w0 : World) (hp : Pl 4 ps) (hr : Rd w0 A ps.length 4 ps.flatten) (hl : ps.length ≤ 4611686018427387903) (hC : Cmp Tryz.prog k (.int .i64 tn) cf ps) : Does Tryz.prog 86 #[.slice A n c, .int .i64 tn, .func (.func k) #[] #[]] w0 (fun r w' => ∃ (i : Nat) (f : Bool), r = .tuple #[.int .i64 (i : Int), .bool f] ∧ Found ps cf i f ∧ Hp w0 w' [] []) := by
 refine does_of Tryz.func86 Tryz.ntmps86 rfl<|cR e49 ?_
 subst hn
 have H := Hp.refl w0
 have hn := hr.len
 refine Rq<|Xa rfl<|Xa rfl<|Xr e49<|Rq<|Xm rfl<|OV (ES Tryz.underlying54 rfl)<|Xa rfl<|Xr e49<|Rq<|Xm rfl<|Xa rfl<|Xa rfl<|Xr e49<|J1<|J7<|run_loop (fun nQ lQ w => ∃ (i m : Nat) (y z : Int), m - i = nQ ∧ Fits [some (.slice A ps.length c), some (.int .i64 tn), some (.func (.func k) #[] #[]), none, none, none, none, none, some (.int .i64 (ps.length : Int)), some (.int .i64 y), some (.int .i64 z), none, none, none, none, none, none, none, none, none, none, none, none, none, none, none, none, none, none, none, none, none, none, none, none, none, none, none, none, none, none, none, none, none, none, none, none, none, none] lQ ∧ y = (i : Int) ∧ z = (m : Int) ∧ i ≤ m ∧ m ≤ ps.length ∧ (∀ (k : Nat) (p : List Value), k < i → ps[k]? = some p → cf p < 0) ∧ (∀ (k : Nat) (p : List Value), m ≤ k → ps[k]? = some p → 0 ≤ cf p) ∧ Hp w0 w [] []) (ps.length - 0) ?_ ?_
 exact ⟨0, ps.length, _, _, rfl, (fs (fs (fs (fn (fn (fn (fn (fn (fs (fs (fs (fn (fn (fn (fn (fn (fn (fn (fn (fn (fn (fn (fn (fn (fn (fn (fn (fn (fn (fn (fn (fn (fn (fn (fn (fn (fn (fn (fn (fn (fn (fn (fn (fn (fn (fn (fn (fn (fn f0))))))))))))))))))))))))))))))))))))))))))))))))), rfl, rfl, Nat.zero_le _, Nat.le_refl _, fun k p hk => by omega, fun k p hk hkp => by have := lt_of_get hkp; omega, H⟩
 rintro nQ lQ w1 ⟨i, m, y, z, rfl, hfit, rfl, rfl, him, hmn, hlo, hhi, H1⟩
 obtain ⟨j, rfl⟩ := hfit.open
 refine cR e49 ?_
 clear hfit
 refine J1<|Rq<|Xm rfl<|Xm rfl<|OT (ex_lss rfl rfl) (fun hp17 => ?_) (fun hp17 => ?_)
 obtain ⟨p1, hp1⟩ := get_of (l := ps) (j := (i + m) / 2) (by omega)
 have hql := lt_of_get hp1
 obtain ⟨a1, ha1⟩ := hr.some_ (by omega)
 subst ha1
 refine Xr e49<|J3 rfl<|J6<|J7<|Rq<|Xm rfl<|Xm rfl<|OV (ex_add rfl rfl ((IntWalk.i64_in _ (by omega)).trans (show (i : Int) + (m : Int) = ((i + m : Nat) : Int) by omega)))<|OV (ex_conv Tryz.underlying130 Tryz.underlying3 rfl ((show IntKind.u64.wrap ((i + m : Nat) : Int) = ((i + m : Nat) : Int) by rw [IntKind.wrap_u64]; omega)))<|cOp e49<|OV (ex_shr rfl rfl (by omega) (show (((i + m : Nat) : Int)).fdiv (2 ^ (min (1 : Int).toNat IntKind.u64.bits)) = (((i + m) / 2 : Nat) : Int) from shr_nat (i + m) 1 64))<|OV (ex_conv Tryz.underlying3 Tryz.underlying130 rfl (IntWalk.i64_in _ (by omega)))<|Xa rfl<|Xr e49<|Rq<|Xm rfl<|Xm rfl<|Xm rfl<|OV (EI Tryz.underlying54 ty39 rfl rfl rfl hql rfl)<|cOp e49<|OV (EN ty39 rfl (vs := p1) (hp.at hp1) ((hr.to0 H1).elem hp hp1))<|Xm rfl<|OC (ex_call_val hC.go rfl rfl) (hC.does w1 p1 (mem_of hp1))<|fun w2 Hd=>have H2:=H1.callN Hd;OT (ex_lss rfl rfl) (fun hp31 => ?_) (fun hp31 => ?_)
 refine Xr e49<|J3 rfl<|J2<|Xm rfl<|OV (ex_add rfl rfl (IntWalk.i64_in _ (by omega)))<|Xa rfl<|Xr e49<|run_nil (blk_normal ?_)
 refine run_nil (rnd_normal ?_)
 exact ⟨m - ((i + m) / 2 + 1), by omega, (i + m) / 2 + 1, m, _, _, rfl, (fs (fs (fs (fn (fn (fn (fn (fn (fs (fs (fs (fn (fn (fn (fn (fn (fn (fn (fn (fn (fn (fn (fn (fn (fn (fn (fn (fn (fn (fn (fn (fn (fn (fn (fn (fn (fn (fn (fn (fn (fn (fn (fn (fn (fn (fn (fn (fn (fn f0))))))))))))))))))))))))))))))))))))))))))))))))), by omega, rfl, by omega, by omega, fun k p hk hkp => hC.mono k _ p p1 (by omega) hkp hp1 hp31, hhi, H2⟩
 refine Xr e49<|J4 rfl<|J2<|Xm rfl<|Xa rfl<|Xr e49<|run_nil (blk_normal ?_)
 refine run_nil (rnd_normal ?_)
 exact ⟨(i + m) / 2 - i, by omega, i, (i + m) / 2, _, _, rfl, (fs (fs (fs (fn (fn (fn (fn (fn (fs (fs (fs (fn (fn (fn (fn (fn (fn (fn (fn (fn (fn (fn (fn (fn (fn (fn (fn (fn (fn (fn (fn (fn (fn (fn (fn (fn (fn (fn (fn (fn (fn (fn (fn (fn (fn (fn (fn (fn (fn f0))))))))))))))))))))))))))))))))))))))))))))))))), rfl, rfl, by omega, by omega, hlo, fun k p hk hkp => by
   rcases Int.lt_or_le (cf p) 0 with h | h
   · exact absurd (hC.mono _ k p1 p (by omega) hp1 hkp h) hp31
   · exact h, H2⟩
 obtain rfl : i = m := by omega
 refine Xr e49<|J4 rfl<|J8<|rnd_exit<|blk_exit<|Rq<|Xm rfl<|Xm rfl<|Xm rfl<|OT (ex_lss rfl rfl) (fun hp38 => ?_) (fun hp38 => ?_)
 obtain ⟨p1, hp1⟩ := get_of (l := ps) (j := i) (by omega)
 have hql := lt_of_get hp1
 obtain ⟨a1, ha1⟩ := hr.some_ (by omega)
 subst ha1
 refine Xm rfl<|cOp e49<|OY rfl<|Xm rfl<|OY rfl<|Xm rfl<|cOp e49<|OY rfl<|Xm rfl<|OY rfl<|OV (EI Tryz.underlying54 ty39 rfl rfl rfl hql rfl)<|cOp e49<|OY rfl<|OV (EN ty39 rfl (vs := p1) (hp.at hp1) ((hr.to0 H1).elem hp hp1))<|OY rfl<|Xm rfl<|cOp e49<|OY rfl<|OC (ex_call_val hC.go rfl rfl) (hC.does w1 p1 (mem_of hp1))<|fun w2 Hd=>have H2:=H1.callN Hd;OY rfl<|OT (ex_eql rfl rfl) (fun hp47 => ?_) (fun hp47 => ?_)
 refine Xt rfl rfl<|Xa rfl<|Xa rfl<|Xr e49<|J5<|FN2 rfl rfl rfl<|⟨i, true, rfl, ⟨by omega, hlo, hhi, fun _ => ⟨p1, hp1, hp47⟩, fun h => by cases h⟩, H2.noRows⟩
 refine Xt rfl rfl<|Xa rfl<|Xa rfl<|Xr e49<|J5<|FN2 rfl rfl rfl ?_
 exact ⟨i, false, rfl, ⟨by omega, hlo, hhi, (fun h => by cases h), fun _ p h2 => by
   rw [hp1] at h2
   cases h2
   exact hp47⟩, H2.noRows⟩
 refine Xm rfl<|cOp e49<|OZ rfl<|OZ rfl<|cOp e49<|OZ rfl<|OZ rfl<|cOp e49<|OZ rfl<|OZ rfl<|cOp e49<|OZ rfl<|OZ rfl<|Xu rfl rfl<|Xa rfl<|cOp e49<|Xa rfl<|Xr e49<|J5<|FN2 rfl rfl rfl<|⟨i, false, rfl, ⟨by omega, hlo, hhi, (fun h => by cases h), fun _ p h2 => by have := lt_of_get h2; omega⟩, H1.noRows⟩
set_option maxRecDepth 100000 in
set_option maxHeartbeats 4000000 in
theorem bsearchM (A : Option Addr) (c : Nat) (ps : List (List Value)) (n : Nat) (hn : ps.length = n) (k : FuncId) (tn : Int) (cf : List Value → Int) (w0 : World) (hp : Pl 7 ps) (hr : Rd w0 A ps.length 7 ps.flatten) (hl : ps.length ≤ 4611686018427387903) (hC : Cmp Tryz.prog k (.int .i64 tn) cf ps) : Does Tryz.prog 98 #[.slice A n c, .int .i64 tn, .func (.func k) #[] #[]] w0 (fun r w' => ∃ (i : Nat) (f : Bool), r = .tuple #[.int .i64 (i : Int), .bool f] ∧ Found ps cf i f ∧ Hp w0 w' [] []) := by
 refine does_of Tryz.func98 Tryz.ntmps98 rfl<|cR e49 ?_
 subst hn
 have H := Hp.refl w0
 have hn := hr.len
 refine Rq<|Xa rfl<|Xa rfl<|Xr e49<|Rq<|Xm rfl<|OV (ES Tryz.underlying25 rfl)<|Xa rfl<|Xr e49<|Rq<|Xm rfl<|Xa rfl<|Xa rfl<|Xr e49<|J1<|J7<|run_loop (fun nQ lQ w => ∃ (i m : Nat) (y z : Int), m - i = nQ ∧ Fits [some (.slice A ps.length c), some (.int .i64 tn), some (.func (.func k) #[] #[]), none, none, none, none, none, some (.int .i64 (ps.length : Int)), some (.int .i64 y), some (.int .i64 z), none, none, none, none, none, none, none, none, none, none, none, none, none, none, none, none, none, none, none, none, none, none, none, none, none, none, none, none, none, none, none, none, none, none, none, none, none, none] lQ ∧ y = (i : Int) ∧ z = (m : Int) ∧ i ≤ m ∧ m ≤ ps.length ∧ (∀ (k : Nat) (p : List Value), k < i → ps[k]? = some p → cf p < 0) ∧ (∀ (k : Nat) (p : List Value), m ≤ k → ps[k]? = some p → 0 ≤ cf p) ∧ Hp w0 w [] []) (ps.length - 0) ?_ ?_
 exact ⟨0, ps.length, _, _, rfl, (fs (fs (fs (fn (fn (fn (fn (fn (fs (fs (fs (fn (fn (fn (fn (fn (fn (fn (fn (fn (fn (fn (fn (fn (fn (fn (fn (fn (fn (fn (fn (fn (fn (fn (fn (fn (fn (fn (fn (fn (fn (fn (fn (fn (fn (fn (fn (fn (fn f0))))))))))))))))))))))))))))))))))))))))))))))))), rfl, rfl, Nat.zero_le _, Nat.le_refl _, fun k p hk => by omega, fun k p hk hkp => by have := lt_of_get hkp; omega, H⟩
 rintro nQ lQ w1 ⟨i, m, y, z, rfl, hfit, rfl, rfl, him, hmn, hlo, hhi, H1⟩
 obtain ⟨j, rfl⟩ := hfit.open
 refine cR e49 ?_
 clear hfit
 refine J1<|Rq<|Xm rfl<|Xm rfl<|OT (ex_lss rfl rfl) (fun hp17 => ?_) (fun hp17 => ?_)
 obtain ⟨p1, hp1⟩ := get_of (l := ps) (j := (i + m) / 2) (by omega)
 have hql := lt_of_get hp1
 obtain ⟨a1, ha1⟩ := hr.some_ (by omega)
 subst ha1
 refine Xr e49<|J3 rfl<|J6<|J7<|Rq<|Xm rfl<|Xm rfl<|OV (ex_add rfl rfl ((IntWalk.i64_in _ (by omega)).trans (show (i : Int) + (m : Int) = ((i + m : Nat) : Int) by omega)))<|OV (ex_conv Tryz.underlying130 Tryz.underlying3 rfl ((show IntKind.u64.wrap ((i + m : Nat) : Int) = ((i + m : Nat) : Int) by rw [IntKind.wrap_u64]; omega)))<|cOp e49<|OV (ex_shr rfl rfl (by omega) (show (((i + m : Nat) : Int)).fdiv (2 ^ (min (1 : Int).toNat IntKind.u64.bits)) = (((i + m) / 2 : Nat) : Int) from shr_nat (i + m) 1 64))<|OV (ex_conv Tryz.underlying3 Tryz.underlying130 rfl (IntWalk.i64_in _ (by omega)))<|Xa rfl<|Xr e49<|Rq<|Xm rfl<|Xm rfl<|Xm rfl<|OV (EI Tryz.underlying25 ty63 rfl rfl rfl hql rfl)<|cOp e49<|OV (EN ty63 rfl (vs := p1) (hp.at hp1) ((hr.to0 H1).elem hp hp1))<|Xm rfl<|OC (ex_call_val hC.go rfl rfl) (hC.does w1 p1 (mem_of hp1))<|fun w2 Hd=>have H2:=H1.callN Hd;OT (ex_lss rfl rfl) (fun hp31 => ?_) (fun hp31 => ?_)
 refine Xr e49<|J3 rfl<|J2<|Xm rfl<|OV (ex_add rfl rfl (IntWalk.i64_in _ (by omega)))<|Xa rfl<|Xr e49<|run_nil (blk_normal ?_)
 refine run_nil (rnd_normal ?_)
 exact ⟨m - ((i + m) / 2 + 1), by omega, (i + m) / 2 + 1, m, _, _, rfl, (fs (fs (fs (fn (fn (fn (fn (fn (fs (fs (fs (fn (fn (fn (fn (fn (fn (fn (fn (fn (fn (fn (fn (fn (fn (fn (fn (fn (fn (fn (fn (fn (fn (fn (fn (fn (fn (fn (fn (fn (fn (fn (fn (fn (fn (fn (fn (fn (fn f0))))))))))))))))))))))))))))))))))))))))))))))))), by omega, rfl, by omega, by omega, fun k p hk hkp => hC.mono k _ p p1 (by omega) hkp hp1 hp31, hhi, H2⟩
 refine Xr e49<|J4 rfl<|J2<|Xm rfl<|Xa rfl<|Xr e49<|run_nil (blk_normal ?_)
 refine run_nil (rnd_normal ?_)
 exact ⟨(i + m) / 2 - i, by omega, i, (i + m) / 2, _, _, rfl, (fs (fs (fs (fn (fn (fn (fn (fn (fs (fs (fs (fn (fn (fn (fn (fn (fn (fn (fn (fn (fn (fn (fn (fn (fn (fn (fn (fn (fn (fn (fn (fn (fn (fn (fn (fn (fn (fn (fn (fn (fn (fn (fn (fn (fn (fn (fn (fn (fn f0))))))))))))))))))))))))))))))))))))))))))))))))), rfl, rfl, by omega, by omega, hlo, fun k p hk hkp => by
   rcases Int.lt_or_le (cf p) 0 with h | h
   · exact absurd (hC.mono _ k p1 p (by omega) hp1 hkp h) hp31
   · exact h, H2⟩
 obtain rfl : i = m := by omega
 refine Xr e49<|J4 rfl<|J8<|rnd_exit<|blk_exit<|Rq<|Xm rfl<|Xm rfl<|Xm rfl<|OT (ex_lss rfl rfl) (fun hp38 => ?_) (fun hp38 => ?_)
 obtain ⟨p1, hp1⟩ := get_of (l := ps) (j := i) (by omega)
 have hql := lt_of_get hp1
 obtain ⟨a1, ha1⟩ := hr.some_ (by omega)
 subst ha1
 refine Xm rfl<|cOp e49<|OY rfl<|Xm rfl<|OY rfl<|Xm rfl<|cOp e49<|OY rfl<|Xm rfl<|OY rfl<|OV (EI Tryz.underlying25 ty63 rfl rfl rfl hql rfl)<|cOp e49<|OY rfl<|OV (EN ty63 rfl (vs := p1) (hp.at hp1) ((hr.to0 H1).elem hp hp1))<|OY rfl<|Xm rfl<|cOp e49<|OY rfl<|OC (ex_call_val hC.go rfl rfl) (hC.does w1 p1 (mem_of hp1))<|fun w2 Hd=>have H2:=H1.callN Hd;OY rfl<|OT (ex_eql rfl rfl) (fun hp47 => ?_) (fun hp47 => ?_)
 refine Xt rfl rfl<|Xa rfl<|Xa rfl<|Xr e49<|J5<|FN2 rfl rfl rfl<|⟨i, true, rfl, ⟨by omega, hlo, hhi, fun _ => ⟨p1, hp1, hp47⟩, fun h => by cases h⟩, H2.noRows⟩
 refine Xt rfl rfl<|Xa rfl<|Xa rfl<|Xr e49<|J5<|FN2 rfl rfl rfl ?_
 exact ⟨i, false, rfl, ⟨by omega, hlo, hhi, (fun h => by cases h), fun _ p h2 => by
   rw [hp1] at h2
   cases h2
   exact hp47⟩, H2.noRows⟩
 refine Xm rfl<|cOp e49<|OZ rfl<|OZ rfl<|cOp e49<|OZ rfl<|OZ rfl<|cOp e49<|OZ rfl<|OZ rfl<|cOp e49<|OZ rfl<|OZ rfl<|Xu rfl rfl<|Xa rfl<|cOp e49<|Xa rfl<|Xr e49<|J5<|FN2 rfl rfl rfl<|⟨i, false, rfl, ⟨by omega, hlo, hhi, (fun h => by cases h), fun _ p h2 => by have := lt_of_get h2; omega⟩, H1.noRows⟩
set_option maxRecDepth 100000 in
set_option maxHeartbeats 4000000 in
theorem bsearchR (A : Option Addr) (c : Nat) (ps : List (List Value)) (n : Nat) (hn : ps.length = n) (k : FuncId) (tc : List Value) (htc : tc.length = 4) (cf : List Value → Int) (w0 : World) (hp : Pl 4 ps) (hr : Rd w0 A ps.length 4 ps.flatten) (hl : ps.length ≤ 4611686018427387903) (hC : Cmp Tryz.prog k (.agg tc.toArray) cf ps) : Does Tryz.prog 76 #[.slice A n c, .agg tc.toArray, .func (.func k) #[] #[]] w0 (fun r w' => ∃ (i : Nat) (f : Bool), r = .tuple #[.int .i64 (i : Int), .bool f] ∧ Found ps cf i f ∧ Hp w0 w' [] []) := by
 refine does_of Tryz.func76 Tryz.ntmps76 rfl<|cR e49 ?_
 subst hn
 have H := Hp.refl w0
 have hn := hr.len
 refine Rq<|ops_box rfl rfl H<|fun w1 g4 H1 hg4=>Xa rfl<|Xa rfl<|Xr e49<|Rq<|Xm rfl<|OV (ES Tryz.underlying24 rfl)<|Xa rfl<|Xr e49<|Rq<|Xm rfl<|Xa rfl<|Xa rfl<|Xr e49<|J1<|J7<|run_loop (fun nQ lQ w => ∃ (i m : Nat) (y z : Int) (g4 : Nat), m - i = nQ ∧ Fits [some (.slice A ps.length c), none, some (.func (.func k) #[] #[]), none, some (.pointer (some ⟨g4, 0, none⟩)), none, none, none, some (.int .i64 (ps.length : Int)), some (.int .i64 y), some (.int .i64 z), none, none, none, none, none, none, none, none, none, none, none, none, none, none, none, none, none, none, none, none, none, none, none, none, none, none, none, none, none, none, none, none, none, none, none, none, none, none] lQ ∧ y = (i : Int) ∧ z = (m : Int) ∧ i ≤ m ∧ m ≤ ps.length ∧ (∀ (k : Nat) (p : List Value), k < i → ps[k]? = some p → cf p < 0) ∧ (∀ (k : Nat) (p : List Value), m ≤ k → ps[k]? = some p → 0 ≤ cf p) ∧ Hp w0 w [] [((some g4, 43, tc) : Ent)]) (ps.length - 0) ?_ ?_
 exact ⟨0, ps.length, _, _, _, rfl, (fs (fn (fs (fn (fs (fn (fn (fn (fs (fs (fs (fn (fn (fn (fn (fn (fn (fn (fn (fn (fn (fn (fn (fn (fn (fn (fn (fn (fn (fn (fn (fn (fn (fn (fn (fn (fn (fn (fn (fn (fn (fn (fn (fn (fn (fn (fn (fn (fn f0))))))))))))))))))))))))))))))))))))))))))))))))), rfl, rfl, Nat.zero_le _, Nat.le_refl _, fun k p hk => by omega, fun k p hk hkp => by have := lt_of_get hkp; omega, H1⟩
 rintro nQ lQ w2 ⟨i, m, y, z, g4, rfl, hfit, rfl, rfl, him, hmn, hlo, hhi, H2⟩
 obtain ⟨j, rfl⟩ := hfit.open
 refine cR e49 ?_
 clear hfit
 refine J1<|Rq<|Xm rfl<|Xm rfl<|OT (ex_lss rfl rfl) (fun hp17 => ?_) (fun hp17 => ?_)
 obtain ⟨p1, hp1⟩ := get_of (l := ps) (j := (i + m) / 2) (by omega)
 have hql := lt_of_get hp1
 obtain ⟨a1, ha1⟩ := hr.some_ (by omega)
 subst ha1
 refine Xr e49<|J3 rfl<|J6<|J7<|Rq<|Xm rfl<|Xm rfl<|OV (ex_add rfl rfl ((IntWalk.i64_in _ (by omega)).trans (show (i : Int) + (m : Int) = ((i + m : Nat) : Int) by omega)))<|OV (ex_conv Tryz.underlying130 Tryz.underlying3 rfl ((show IntKind.u64.wrap ((i + m : Nat) : Int) = ((i + m : Nat) : Int) by rw [IntKind.wrap_u64]; omega)))<|cOp e49<|OV (ex_shr rfl rfl (by omega) (show (((i + m : Nat) : Int)).fdiv (2 ^ (min (1 : Int).toNat IntKind.u64.bits)) = (((i + m) / 2 : Nat) : Int) from shr_nat (i + m) 1 64))<|OV (ex_conv Tryz.underlying3 Tryz.underlying130 rfl (IntWalk.i64_in _ (by omega)))<|Xa rfl<|Xr e49<|J1<|run_mixZ 7 [(true, 0), (true, 1), (true, 2), (true, 3), (true, 4), (true, 5), (false, 6), (false, 7)] H2 [0] mixed (by decide) (by kernel_rfl) ?_
 rintro w3 hw3
 have H3 := Hp.drew H2; rw [← hw3] at H3
 refine Zm rfl rfl<|Zm rfl rfl<|Zm rfl rfl<|MP rfl<|MV (fun wz hz => EI Tryz.underlying24 ty43 rfl rfl rfl hql rfl)<|cZ e49<|MP rfl<|MV (fun wz hz => EN ty43 rfl (vs := p1) (hp.at hp1) ((hr.to0 hz).elem hp hp1))<|MP rfl<|MV (fun wz hz => EN ty43 rfl (vs := tc) htc (hz.cellsR (i := 0) rfl (by rw [List.drop_zero, List.take_length])))<|MO rfl<|OC (ex_call_val hC.go rfl rfl) (hC.does w3 p1 (mem_of hp1))<|fun w4 Hd=>have H4:=H3.callN Hd;OE<|⟨fun hne => H4.pick [0] (by decide), ?_⟩
 refine cZ e49<|MO rfl<|OT (ex_lss rfl rfl) (fun hp31 => ?_) (fun hp31 => ?_)
 refine OE ?_
 refine ⟨fun hne => absurd rfl hne, ?_⟩
 refine ME<|cR e49<|J3 rfl<|J2<|Xm rfl<|OV (ex_add rfl rfl (IntWalk.i64_in _ (by omega)))<|Xa rfl<|Xr e49<|run_nil (blk_normal ?_)
 refine run_nil (rnd_normal ?_)
 exact ⟨m - ((i + m) / 2 + 1), by omega, (i + m) / 2 + 1, m, _, _, _, rfl, (fs (fn (fs (fn (fs (fn (fn (fn (fs (fs (fs (fn (fn (fn (fn (fn (fn (fn (fn (fn (fn (fn (fn (fn (fn (fn (fn (fn (fn (fn (fn (fn (fn (fn (fn (fn (fn (fn (fn (fn (fn (fn (fn (fn (fn (fn (fn (fn (fn f0))))))))))))))))))))))))))))))))))))))))))))))))), by omega, rfl, by omega, by omega, fun k p hk hkp => hC.mono k _ p p1 (by omega) hkp hp1 hp31, hhi, H4⟩
 refine OE ?_
 refine ⟨fun hne => absurd rfl hne, ?_⟩
 refine ME<|cR e49<|J4 rfl<|J2<|Xm rfl<|Xa rfl<|Xr e49<|run_nil (blk_normal ?_)
 refine run_nil (rnd_normal ?_)
 exact ⟨(i + m) / 2 - i, by omega, i, (i + m) / 2, _, _, _, rfl, (fs (fn (fs (fn (fs (fn (fn (fn (fs (fs (fs (fn (fn (fn (fn (fn (fn (fn (fn (fn (fn (fn (fn (fn (fn (fn (fn (fn (fn (fn (fn (fn (fn (fn (fn (fn (fn (fn (fn (fn (fn (fn (fn (fn (fn (fn (fn (fn (fn f0))))))))))))))))))))))))))))))))))))))))))))))))), rfl, rfl, by omega, by omega, hlo, fun k p hk hkp => by
   rcases Int.lt_or_le (cf p) 0 with h | h
   · exact absurd (hC.mono _ k p1 p (by omega) hp1 hkp h) hp31
   · exact h, H4⟩
 obtain rfl : i = m := by omega
 refine Xr e49<|J4 rfl<|J8<|rnd_exit<|blk_exit<|J1<|run_mixZ 15 [(true, 0), (true, 1), (true, 2), (true, 3), (true, 4), (true, 5), (true, 6), (true, 7), (true, 8), (true, 9), (true, 10), (false, 11), (true, 12), (true, 13), (true, 14), (false, 15)] H2 [0] mixed (by decide) (by kernel_rfl) ?_
 rintro w3 hw3
 have H3 := Hp.drew H2; rw [← hw3] at H3
 refine Zm rfl rfl<|Zm rfl rfl<|Zm rfl rfl<|MP rfl<|mix1_test (fun wz hz => ex_lss rfl rfl) (fun hp38 => ?_) (fun hp38 => ?_)
 obtain ⟨p1, hp1⟩ := get_of (l := ps) (j := i) (by omega)
 have hql := lt_of_get hp1
 obtain ⟨a1, ha1⟩ := hr.some_ (by omega)
 subst ha1
 refine Zm rfl rfl<|cZ e49<|MP rfl<|MY rfl<|MV (fun wz hz => ex_move rfl)<|MP rfl<|MY rfl<|MV (fun wz hz => ex_move rfl)<|MP rfl<|MY rfl<|MV (fun wz hz => ex_move rfl)<|MP rfl<|MY rfl<|MV (fun wz hz => EI Tryz.underlying24 ty43 rfl rfl rfl hql rfl)<|cZ e49<|MP rfl<|MY rfl<|MV (fun wz hz => EN ty43 rfl (vs := p1) (hp.at hp1) ((hr.to0 hz).elem hp hp1))<|MP rfl<|MY rfl<|MV (fun wz hz => EN ty43 rfl (vs := tc) htc (hz.cellsR (i := 0) rfl (by rw [List.drop_zero, List.take_length])))<|MO rfl<|OY rfl<|OC (ex_call_val hC.go rfl rfl) (hC.does w3 p1 (mem_of hp1))<|fun w4 Hd=>have H4:=H3.callN Hd;OE<|⟨fun hne => H4.pick [0] (by decide), ?_⟩
 refine cZ e49<|MP rfl<|MY rfl<|mix1_test (fun wz hz => ex_eql rfl rfl) (fun hp47 => ?_) (fun hp47 => ?_)
 refine MP rfl<|MV (fun wz hz => ex_pick_t rfl rfl)<|MP rfl<|MV (fun wz hz => ex_assign rfl)<|MO rfl<|Xa rfl<|OE<|⟨fun hne => absurd rfl hne, ?_⟩
 refine cZ e49<|ME<|cR e49<|J5<|FN2 rfl rfl rfl<|⟨i, true, rfl, ⟨by omega, hlo, hhi, fun _ => ⟨p1, hp1, hp47⟩, fun h => by cases h⟩, H4.noRows⟩
 refine MP rfl<|MV (fun wz hz => ex_pick_t rfl rfl)<|MP rfl<|MV (fun wz hz => ex_assign rfl)<|MO rfl<|Xa rfl<|OE<|⟨fun hne => absurd rfl hne, ?_⟩
 refine cZ e49<|ME<|cR e49<|J5<|FN2 rfl rfl rfl ?_
 exact ⟨i, false, rfl, ⟨by omega, hlo, hhi, (fun h => by cases h), fun _ p h2 => by
   rw [hp1] at h2
   cases h2
   exact hp47⟩, H4.noRows⟩
 refine Zm rfl rfl<|cZ e49<|MP rfl<|MZ rfl<|MP rfl<|MZ rfl<|cZ e49<|MP rfl<|MZ rfl<|MP rfl<|MZ rfl<|cZ e49<|MP rfl<|MZ rfl<|MP rfl<|MZ rfl<|cZ e49<|MO rfl<|OZ rfl<|OE<|⟨fun hne => H3.pick [0] (by decide), ?_⟩
 refine MP rfl<|MZ rfl<|cZ e49<|MP rfl<|MV (fun wz hz => ex_pick_f rfl rfl)<|MP rfl<|MV (fun wz hz => ex_assign rfl)<|MO rfl<|Xa rfl<|OE<|⟨fun hne => absurd rfl hne, ?_⟩
 refine cZ e49<|ME<|cR e49<|J5<|FN2 rfl rfl rfl<|⟨i, false, rfl, ⟨by omega, hlo, hhi, (fun h => by cases h), fun _ p h2 => by have := lt_of_get h2; omega⟩, H3.noRows⟩
end Go.Proofs.YtbninklfoogmdaaGreat
/- Walks of layer 2, printed by wip/gen/codec.py. -/
namespace Go.Proofs.YtbninklfoogmdaaGreat
open Go Go.RowKit
set_option linter.unusedVariables false
attribute [local irreducible] Still Ops Does Cd
set_option maxRecDepth 100000 in
set_option maxHeartbeats 16000000 in
theorem insertV (g : Option Nat) (cap i gv n : Nat) (ps : List (List Value)) (hn : ps.length = n) (vs sp : List Value) (w0 : World) (H0 : Hp w0 w0 (bl [((g, 39, ps.flatten ++ sp) : Ent)]) [((g, 39, ps.flatten ++ sp) : Ent)]) (hp : Pl 4 ps) (ho : ∀ p ∈ ps, p.all (·.oneCell') = true) (hl : ps.length ≤ cap) (hcz : cap * 4 ≤ (ps.flatten ++ sp).length) (hg0 : g = none → cap = 0) (hi : i ≤ ps.length) (hv : w0.heap[gv]? = some (.cells vs.toArray 39 (0, 0))) (hvl : vs.length = 4) (hvo : vs.all (·.oneCell') = true) (hgv : gv ∉ bl [((g, 39, ps.flatten ++ sp) : Ent)]) (hb : (ps.length + 1) * 48 ≤ 211106232532992) : Does Tryz.prog 88 #[.slice (hd g) n cap, .int .i64 (i : Int), .slice (some ⟨gv, 0, none⟩) 1 1] w0 (fun r w' => ∃ g' cap' sp', r = .slice (hd g') (ps.length + 1) cap' ∧ ps.length + 1 ≤ cap' ∧ cap' * 4 ≤ ((ps.take i ++ vs :: ps.drop i).flatten ++ sp').length ∧ (g' = none → cap' = 0) ∧ Hp w0 w' (bl [((g, 39, ps.flatten ++ sp) : Ent)]) [((g', 39, (ps.take i ++ vs :: ps.drop i).flatten ++ sp') : Ent)]) := by
 refine does_of Tryz.func88 Tryz.ntmps88 rfl<|cR e95 ?_
 subst hn
 have H := H0
 have hrd := H.rd (i := 0) rfl hp.len (by decide)
 have hones := ones_flatten ho
 refine Rq<|Xa rfl<|Xr e95<|Rq<|Xm rfl<|Xm rfl<|OV (ex_cutLo Tryz.underlying54 ty39 rfl rfl ⟨by omega, by omega⟩)<|Xr e95<|Rq<|Xm rfl<|OV (ES Tryz.underlying54 rfl)<|Xa rfl<|Xr e95<|J1<|Rq<|Xm rfl<|OT0 (ex_eql rfl rfl) (by decide)<|Xr e95<|J4 rfl<|J6<|Rq<|Xm rfl<|OV (ES Tryz.underlying54 rfl)<|Xa rfl<|Xr e95<|J1<|Rq<|Xm rfl<|Xm rfl ?_
 refine OT (ex_eql rfl rfl) (fun hp22 => ?_) (fun hp22 => ?_)
 obtain rfl : i = ps.length := by omega
 refine Xr e95<|J3 rfl<|Rq<|Xm rfl<|Xm rfl ?_
 have hvr := (⟨by rw [hvl], fun a ha jx u hu => by cases ha; rw [addn, Nat.zero_add]; exact (by simp [World.cell?, H.keep hv hgv, hu]), fun h => by cases h⟩ : Rd w0 (some ⟨gv, 0, none⟩) 1 4 vs)
 refine ops_append Tryz.underlying54 ty39 (by decide) H 0 (g := g) (xs := ps.flatten) (sp := sp) rfl rfl hp.len hcz hl hg0 rfl hvr hvo (by omega) (by omega) (by decide)<|fun w1 g2 cap2 sp2 H1 hcz2 hl2 hg2=>Xa rfl<|Xr e95<|J5<|FN1 rfl rfl ?_
 have e1 : (ps.take ps.length ++ vs :: ps.drop ps.length).flatten = ps.flatten ++ vs := by rw [List.take_length, List.drop_length]; simp
 refine ⟨g2, cap2, sp2, rfl, hl2, by rw [e1]; exact hcz2, hg2, ?_⟩
 rw [e1]
 exact H1
 have hil : i < ps.length := by omega
 obtain ⟨gx, rfl⟩ := own_some H (i := 0) rfl (by rw [List.length_append, hp.len]; have : 0 < ps.length * 4 := Nat.mul_pos (by omega) (by decide); omega)
 refine Xr e95<|J4 rfl<|J6<|J1<|Rq<|Xm rfl<|Xm rfl<|OV (ex_add rfl rfl (IntWalk.i64_in _ (by omega)))<|Xm rfl<|cOp e95<|OV (ex_cap_slice Tryz.underlying54 rfl)<|OT (ex_gtr rfl rfl) (fun hp31 => ?_) (fun hp31 => ?_)
 refine Xr e95<|J3 rfl<|Rq<|Xm rfl<|Xm rfl<|OV (ex_hi Tryz.underlying54 ty39 rfl rfl rfl (by omega))<|Xm rfl<|cOp e95<|Xm rfl<|OV (ex_add rfl rfl (IntWalk.i64_in _ (by omega)))<|Xm rfl<|OV (ex_sub rfl rfl ((IntWalk.i64_in _ (by omega)).trans (show ((ps.length : Int) + 1 - (i : Int)) = ((ps.length + 1 - i : Nat) : Int) by omega)))<|cOp e95<|ops_append0 Tryz.underlying54 Tryz.underlying3 ty39 (by decide) H rfl (hrd.headN (by omega) (fun h => by cases h)) rfl (by omega) (by omega) (by omega) (by omega) (by decide)<|fun w1 g2 cap2 sp2 H1 hcz2 hl2=>Xa rfl<|Xr e95<|Rq<|Xm rfl<|Xm rfl ?_
 have hie : i + (ps.length + 1 - i) = ps.length + 1 := by omega
 have hrow2 : (ps.flatten.take (i * 4) ++ initL [.int .i64 0, .int .i64 0, .int .i64 0, .slice none 0 0] (ps.length + 1 - i)).length = (ps.length + 1) * 4 := by
   rw [List.length_append, List.length_take, hp.len, initL_length, Nat.min_eq_left (Nat.mul_le_mul_right _ (by omega))]
   show i * 4 + (ps.length + 1 - i) * 4 = _
   rw [← Nat.add_mul, hie]
 have hlv : (i + 1) * 4 ≤ (ps.length + 1) * 4 := Nat.mul_le_mul_right _ (by omega)
 have hvr := (⟨by rw [hvl], fun a ha jx u hu => by cases ha; rw [addn, Nat.zero_add]; exact (by simp [World.cell?, H1.keep hv hgv, hu]), fun h => by cases h⟩ : Rd w1 (some ⟨gv, 0, none⟩) 1 4 vs)
 refine OV (ex_lo Tryz.underlying54 ty39 rfl rfl rfl (by omega) (by omega))<|Xm rfl<|cOp e95<|ops_copyN Tryz.underlying54 ty39 H1 1 (o := 0 + i * 4) (vs := vs) (by first | rfl | (rw [← addn]; rfl)) rfl rfl (by rw [hvl]; show 4 = Nat.min 1 (i + (ps.length + 1 - i) - i) * 4; rw [nminl]; omega) (fun jx u hu => hvr.cells _ rfl jx u hu) (by rw [List.length_append, hrow2, hvl]; omega) hvo<|fun w2 H2=>Xr e95<|J1<|run_mixZ 8 [(true, 0), (true, 1), (true, 2), (true, 3), (true, 4), (true, 5), (true, 6), (true, 7), (false, 8)] H2 [0, 1] mixed (by decide) (by kernel_rfl) ?_
 rintro w3 hw3
 have H3 := Hp.drew H2; rw [← hw3] at H3
 refine Zm rfl rfl<|Zm rfl rfl<|Zm rfl rfl<|MP rfl<|MV (fun wz hz => ex_add rfl rfl (IntWalk.i64_in _ (by omega)))<|cZ e95<|MP rfl<|MV (fun wz hz => ex_lo Tryz.underlying54 ty39 rfl rfl (i := i + 1) (by omega) (by omega) (by omega))<|Zm rfl rfl<|Zm rfl rfl<|MP rfl<|MV (fun wz hz => ex_lo Tryz.underlying54 ty39 rfl rfl rfl (by omega) (by omega))<|cZ e95<|MO rfl ?_
 have hdl : (ps.flatten.drop (i * 4)).length = (ps.length - i) * 4 := by rw [List.length_drop, hp.len, ← Nat.sub_mul]
 refine ops_copyN Tryz.underlying54 ty39 H3 1 (o := 0 + (i + 1) * 4) (vs := ps.flatten.drop (i * 4)) (by first | rfl | (rw [← addn]; rfl)) rfl rfl (by rw [hdl]; show _ = Nat.min (ps.length - i) (i + (ps.length + 1 - i) - (i + 1)) * 4; rw [nminl]; omega) (fun jx u hu => by
   rw [add_add, addn, Nat.zero_add]
   exact H3.cell (i := 0) rfl (by rw [List.getElem?_append_left (by have := lt_of_get hu; rw [List.length_drop] at this; omega)]; rwa [List.getElem?_drop] at hu)) (by rw [putAt_len (by rw [List.length_append, hrow2, hvl]; omega), List.length_append, hrow2, hdl, Nat.zero_add, ← Nat.add_mul, show i + 1 + (ps.length - i) = ps.length + 1 by omega]; omega) (by rw [List.all_eq_true] at hones ⊢; exact fun x hx => hones x (List.mem_of_mem_drop hx)) ?_
 intro w4 H4
 refine OE ?_
 refine ⟨fun hne => absurd rfl hne, ?_⟩
 refine cZ e95<|ME<|cR e95<|Rq<|Xm rfl<|Xa rfl<|Xr e95<|J5<|FN1 rfl rfl ?_
 have HZ := H4.pick [1] (by decide)
 change Hp _ _ _ [((some g2, 39, putAt (putAt _ (0 + i * 4) _) (0 + (i + 1) * 4) _) : Ent)] at HZ
 rw [Nat.zero_add, Nat.zero_add, ins_new (sp := sp2) hp rfl (by omega) hvl (by rw [initL_length]; rfl) rfl] at HZ
 refine ⟨some g2, cap2, sp2, by rw [hie], by omega, ?_, (fun h => by cases h), HZ⟩
 rw [List.length_append] at hcz2 ⊢
 rw [hrow2] at hcz2
 have hp2 : Pl 4 (ps.take i ++ vs :: ps.drop i) := (hp.sub fun x hx => List.mem_of_mem_take hx).app fun x hx => by
   rcases List.mem_cons.1 hx with rfl | hx
   · exact hvl
   · exact hp x (List.mem_of_mem_drop hx)
 rw [hp2.len]
 have : (ps.take i ++ vs :: ps.drop i).length = ps.length + 1 := by rw [List.length_append, List.length_cons, List.length_take, List.length_drop]; omega
 rw [this]; exact hcz2
 refine Xr e95<|J4 rfl<|J6<|Rq<|Xm rfl<|Xm rfl<|Xm rfl<|OV (ex_add rfl rfl (IntWalk.i64_in _ (by omega)))<|cOp e95 ?_
 have hspl : 4 ≤ sp.length := by
   rw [List.length_append, hp.len] at hcz
   have : (ps.length + 1) * 4 ≤ cap * 4 := Nat.mul_le_mul_right _ (by omega)
   omega
 refine OV (ex_hi Tryz.underlying54 ty39 rfl rfl (i := ps.length + 1) (by omega) (by omega))<|Xa rfl<|Xr e95<|J1<|Rq<|Xm rfl<|Xm rfl<|Xm rfl<|Xm rfl<|cOp e95<|OV (ex_add rfl rfl (IntWalk.i64_in _ (by omega)))<|OV (ex_lo Tryz.underlying54 ty39 rfl rfl (i := i + 1) (by omega) (by omega) (by omega)) ?_
 have hgvh := H.keep hv hgv
 have hgxh := H.at (i := 0) rfl
 have hne : gv ≠ gx := fun h => hgv (by rw [h]; simp [bl])
 refine ops_extern (fn := (Tryz.prog.funcs[101]?).get!) (e := Extern.SlicesOverlaps.overlaps #[54, 54] #[4]) (v := .bool false) (by kernel_rfl) (by kernel_rfl) (by kernel_rfl) (by kernel_rfl) (by kernel_rfl) rfl (Lib.run_overlaps_apart w0 54 4 39 Tryz.underlying54 4 (fun w => run_sizeOf ty39) ⟨gv, 0, none⟩ _ 1 1 _ _ (by rw [addn]; exact hne) 39 39 4 _ (by simp [World.shape?, hgvh]; exact hvl) (by rw [addn]; simp only [World.shape?, hgxh]; rfl) (by simp only [List.size_toArray, List.length_append]; omega) (by simp [World.frozen?, hgvh]) (by simp [World.frozen?, hgvh]))<|Xn rfl<|Xr e95<|J3 rfl<|J1<|run_mixZ 8 [(true, 0), (true, 1), (true, 2), (true, 3), (true, 4), (true, 5), (true, 6), (true, 7), (false, 8)] H [0] mixed (by decide) (by kernel_rfl) ?_
 rintro w1 hw1
 have H1 := Hp.drew H; rw [← hw1] at H1
 refine Zm rfl rfl<|Zm rfl rfl<|Zm rfl rfl<|MP rfl<|MV (fun wz hz => ex_add rfl rfl (IntWalk.i64_in _ (by omega)))<|cZ e95<|MP rfl<|MV (fun wz hz => ex_lo Tryz.underlying54 ty39 rfl rfl (i := i + 1) (by omega) (by omega) (by omega))<|Zm rfl rfl<|Zm rfl rfl<|MP rfl<|MV (fun wz hz => ex_lo Tryz.underlying54 ty39 rfl rfl rfl (by omega) (by omega))<|cZ e95<|MO rfl ?_
 have hdl : (ps.flatten.drop (i * 4)).length = (ps.length - i) * 4 := by rw [List.length_drop, hp.len, ← Nat.sub_mul]
 have hlv : (i + 1) * 4 + (ps.length - i) * 4 = (ps.length + 1) * 4 := by rw [← Nat.add_mul, show i + 1 + (ps.length - i) = ps.length + 1 by omega]
 have hlw : (ps.length + 1) * 4 = ps.length * 4 + 4 := by omega
 refine ops_copyN Tryz.underlying54 ty39 H1 0 (o := 0 + (i + 1) * 4) (vs := ps.flatten.drop (i * 4)) (by first | rfl | (rw [← addn]; rfl)) rfl rfl (by rw [hdl]; show _ = Nat.min (ps.length + 1 - i) (ps.length + 1 - (i + 1)) * 4; rw [show Nat.min (ps.length + 1 - i) (ps.length + 1 - (i + 1)) = ps.length - i from (by show min _ _ = _; omega)]) (fun jx u hu => by
   rw [add_add, addn, Nat.zero_add]
   exact H1.cell (i := 0) rfl (by rw [List.getElem?_append_left (by have := lt_of_get hu; rw [List.length_drop] at this; omega)]; rwa [List.getElem?_drop] at hu)) (by rw [List.length_append, hp.len, hdl]; omega) (by rw [List.all_eq_true] at hones ⊢; exact fun x hx => hones x (List.mem_of_mem_drop hx)) ?_
 intro w2 H2
 refine OE ?_
 refine ⟨fun hne => absurd rfl hne, ?_⟩
 refine cZ e95<|ME<|cR e95<|Rq<|Xm rfl<|Xm rfl<|OV (ex_lo Tryz.underlying54 ty39 rfl rfl rfl (by omega) (by omega))<|Xm rfl<|cOp e95 ?_
 have hvr := (⟨by rw [hvl], fun a ha jx u hu => by cases ha; rw [addn, Nat.zero_add]; exact (by simp [World.cell?, H2.keep hv hgv, hu]), fun h => by cases h⟩ : Rd w2 (some ⟨gv, 0, none⟩) 1 4 vs)
 refine ops_copyN Tryz.underlying54 ty39 H2 0 (o := 0 + i * 4) (vs := vs) (by first | rfl | (rw [← addn]; rfl)) rfl rfl (by rw [hvl]; show 4 = Nat.min 1 (ps.length + 1 - i) * 4; rw [nminl]; omega) (fun jx u hu => hvr.cells _ rfl jx u hu) (by rw [putAt_len (by rw [List.length_append, hp.len, hdl]; omega), List.length_append, hp.len, hvl]; have : i * 4 ≤ ps.length * 4 := Nat.mul_le_mul_right _ (by omega); omega) hvo<|fun w3 H3=>Xr e95<|Rq<|Xm rfl<|Xa rfl<|Xr e95<|J5<|FN1 rfl rfl ?_
 have HZ := H3
 change Hp _ _ _ [((some gx, 39, putAt (putAt _ (0 + (i + 1) * 4) _) (0 + i * 4) _) : Ent)] at HZ
 rw [Nat.zero_add, Nat.zero_add, ins_in hp rfl (by omega) hvl hspl] at HZ
 have hp2 : Pl 4 (ps.take i ++ vs :: ps.drop i) := (hp.sub fun x hx => List.mem_of_mem_take hx).app fun x hx => by
   rcases List.mem_cons.1 hx with rfl | hx
   · exact hvl
   · exact hp x (List.mem_of_mem_drop hx)
 have hl3 : (ps.take i ++ vs :: ps.drop i).length = ps.length + 1 := by rw [List.length_append, List.length_cons, List.length_take, List.length_drop]; omega
 refine ⟨some gx, cap, sp.drop 4, rfl, by omega, ?_, (fun h => by cases h), HZ⟩
 rw [List.length_append, hp.len] at hcz
 rw [List.length_append, hp2.len, hl3, List.length_drop]
 omega
set_option maxRecDepth 100000 in
set_option maxHeartbeats 16000000 in
theorem insertR (g : Option Nat) (cap i gv n : Nat) (ps : List (List Value)) (hn : ps.length = n) (vs sp : List Value) (w0 : World) (H0 : Hp w0 w0 (bl [((g, 43, ps.flatten ++ sp) : Ent)]) [((g, 43, ps.flatten ++ sp) : Ent)]) (hp : Pl 4 ps) (ho : ∀ p ∈ ps, p.all (·.oneCell') = true) (hl : ps.length ≤ cap) (hcz : cap * 4 ≤ (ps.flatten ++ sp).length) (hg0 : g = none → cap = 0) (hi : i ≤ ps.length) (hv : w0.heap[gv]? = some (.cells vs.toArray 43 (0, 0))) (hvl : vs.length = 4) (hvo : vs.all (·.oneCell') = true) (hgv : gv ∉ bl [((g, 43, ps.flatten ++ sp) : Ent)]) (hb : (ps.length + 1) * 40 ≤ 211106232532992) : Does Tryz.prog 78 #[.slice (hd g) n cap, .int .i64 (i : Int), .slice (some ⟨gv, 0, none⟩) 1 1] w0 (fun r w' => ∃ g' cap' sp', r = .slice (hd g') (ps.length + 1) cap' ∧ ps.length + 1 ≤ cap' ∧ cap' * 4 ≤ ((ps.take i ++ vs :: ps.drop i).flatten ++ sp').length ∧ (g' = none → cap' = 0) ∧ Hp w0 w' (bl [((g, 43, ps.flatten ++ sp) : Ent)]) [((g', 43, (ps.take i ++ vs :: ps.drop i).flatten ++ sp') : Ent)]) := by
 refine does_of Tryz.func78 Tryz.ntmps78 rfl<|cR e95 ?_
 subst hn
 have H := H0
 have hrd := H.rd (i := 0) rfl hp.len (by decide)
 have hones := ones_flatten ho
 refine Rq<|Xa rfl<|Xr e95<|Rq<|Xm rfl<|Xm rfl<|OV (ex_cutLo Tryz.underlying24 ty43 rfl rfl ⟨by omega, by omega⟩)<|Xr e95<|Rq<|Xm rfl<|OV (ES Tryz.underlying24 rfl)<|Xa rfl<|Xr e95<|J1<|Rq<|Xm rfl<|OT0 (ex_eql rfl rfl) (by decide)<|Xr e95<|J4 rfl<|J6<|Rq<|Xm rfl<|OV (ES Tryz.underlying24 rfl)<|Xa rfl<|Xr e95<|J1<|Rq<|Xm rfl<|Xm rfl ?_
 refine OT (ex_eql rfl rfl) (fun hp22 => ?_) (fun hp22 => ?_)
 obtain rfl : i = ps.length := by omega
 refine Xr e95<|J3 rfl<|Rq<|Xm rfl<|Xm rfl ?_
 have hvr := (⟨by rw [hvl], fun a ha jx u hu => by cases ha; rw [addn, Nat.zero_add]; exact (by simp [World.cell?, H.keep hv hgv, hu]), fun h => by cases h⟩ : Rd w0 (some ⟨gv, 0, none⟩) 1 4 vs)
 refine ops_append Tryz.underlying24 ty43 (by decide) H 0 (g := g) (xs := ps.flatten) (sp := sp) rfl rfl hp.len hcz hl hg0 rfl hvr hvo (by omega) (by omega) (by decide)<|fun w1 g2 cap2 sp2 H1 hcz2 hl2 hg2=>Xa rfl<|Xr e95<|J5<|FN1 rfl rfl ?_
 have e1 : (ps.take ps.length ++ vs :: ps.drop ps.length).flatten = ps.flatten ++ vs := by rw [List.take_length, List.drop_length]; simp
 refine ⟨g2, cap2, sp2, rfl, hl2, by rw [e1]; exact hcz2, hg2, ?_⟩
 rw [e1]
 exact H1
 have hil : i < ps.length := by omega
 obtain ⟨gx, rfl⟩ := own_some H (i := 0) rfl (by rw [List.length_append, hp.len]; have : 0 < ps.length * 4 := Nat.mul_pos (by omega) (by decide); omega)
 refine Xr e95<|J4 rfl<|J6<|J1<|Rq<|Xm rfl<|Xm rfl<|OV (ex_add rfl rfl (IntWalk.i64_in _ (by omega)))<|Xm rfl<|cOp e95<|OV (ex_cap_slice Tryz.underlying24 rfl)<|OT (ex_gtr rfl rfl) (fun hp31 => ?_) (fun hp31 => ?_)
 refine Xr e95<|J3 rfl<|Rq<|Xm rfl<|Xm rfl<|OV (ex_hi Tryz.underlying24 ty43 rfl rfl rfl (by omega))<|Xm rfl<|cOp e95<|Xm rfl<|OV (ex_add rfl rfl (IntWalk.i64_in _ (by omega)))<|Xm rfl<|OV (ex_sub rfl rfl ((IntWalk.i64_in _ (by omega)).trans (show ((ps.length : Int) + 1 - (i : Int)) = ((ps.length + 1 - i : Nat) : Int) by omega)))<|cOp e95<|ops_append0 Tryz.underlying24 Tryz.underlying3 ty43 (by decide) H rfl (hrd.headN (by omega) (fun h => by cases h)) rfl (by omega) (by omega) (by omega) (by omega) (by decide)<|fun w1 g2 cap2 sp2 H1 hcz2 hl2=>Xa rfl<|Xr e95<|Rq<|Xm rfl<|Xm rfl ?_
 have hie : i + (ps.length + 1 - i) = ps.length + 1 := by omega
 have hrow2 : (ps.flatten.take (i * 4) ++ initL [.int .i64 0, .string .empty, .int .i64 0, .int .i64 0] (ps.length + 1 - i)).length = (ps.length + 1) * 4 := by
   rw [List.length_append, List.length_take, hp.len, initL_length, Nat.min_eq_left (Nat.mul_le_mul_right _ (by omega))]
   show i * 4 + (ps.length + 1 - i) * 4 = _
   rw [← Nat.add_mul, hie]
 have hlv : (i + 1) * 4 ≤ (ps.length + 1) * 4 := Nat.mul_le_mul_right _ (by omega)
 have hvr := (⟨by rw [hvl], fun a ha jx u hu => by cases ha; rw [addn, Nat.zero_add]; exact (by simp [World.cell?, H1.keep hv hgv, hu]), fun h => by cases h⟩ : Rd w1 (some ⟨gv, 0, none⟩) 1 4 vs)
 refine OV (ex_lo Tryz.underlying24 ty43 rfl rfl rfl (by omega) (by omega))<|Xm rfl<|cOp e95<|ops_copyN Tryz.underlying24 ty43 H1 1 (o := 0 + i * 4) (vs := vs) (by first | rfl | (rw [← addn]; rfl)) rfl rfl (by rw [hvl]; show 4 = Nat.min 1 (i + (ps.length + 1 - i) - i) * 4; rw [nminl]; omega) (fun jx u hu => hvr.cells _ rfl jx u hu) (by rw [List.length_append, hrow2, hvl]; omega) hvo<|fun w2 H2=>Xr e95<|J1<|run_mixZ 8 [(true, 0), (true, 1), (true, 2), (true, 3), (true, 4), (true, 5), (true, 6), (true, 7), (false, 8)] H2 [0, 1] mixed (by decide) (by kernel_rfl) ?_
 rintro w3 hw3
 have H3 := Hp.drew H2; rw [← hw3] at H3
 refine Zm rfl rfl<|Zm rfl rfl<|Zm rfl rfl<|MP rfl<|MV (fun wz hz => ex_add rfl rfl (IntWalk.i64_in _ (by omega)))<|cZ e95<|MP rfl<|MV (fun wz hz => ex_lo Tryz.underlying24 ty43 rfl rfl (i := i + 1) (by omega) (by omega) (by omega))<|Zm rfl rfl<|Zm rfl rfl<|MP rfl<|MV (fun wz hz => ex_lo Tryz.underlying24 ty43 rfl rfl rfl (by omega) (by omega))<|cZ e95<|MO rfl ?_
 have hdl : (ps.flatten.drop (i * 4)).length = (ps.length - i) * 4 := by rw [List.length_drop, hp.len, ← Nat.sub_mul]
 refine ops_copyN Tryz.underlying24 ty43 H3 1 (o := 0 + (i + 1) * 4) (vs := ps.flatten.drop (i * 4)) (by first | rfl | (rw [← addn]; rfl)) rfl rfl (by rw [hdl]; show _ = Nat.min (ps.length - i) (i + (ps.length + 1 - i) - (i + 1)) * 4; rw [nminl]; omega) (fun jx u hu => by
   rw [add_add, addn, Nat.zero_add]
   exact H3.cell (i := 0) rfl (by rw [List.getElem?_append_left (by have := lt_of_get hu; rw [List.length_drop] at this; omega)]; rwa [List.getElem?_drop] at hu)) (by rw [putAt_len (by rw [List.length_append, hrow2, hvl]; omega), List.length_append, hrow2, hdl, Nat.zero_add, ← Nat.add_mul, show i + 1 + (ps.length - i) = ps.length + 1 by omega]; omega) (by rw [List.all_eq_true] at hones ⊢; exact fun x hx => hones x (List.mem_of_mem_drop hx)) ?_
 intro w4 H4
 refine OE ?_
 refine ⟨fun hne => absurd rfl hne, ?_⟩
 refine cZ e95<|ME<|cR e95<|Rq<|Xm rfl<|Xa rfl<|Xr e95<|J5<|FN1 rfl rfl ?_
 have HZ := H4.pick [1] (by decide)
 change Hp _ _ _ [((some g2, 43, putAt (putAt _ (0 + i * 4) _) (0 + (i + 1) * 4) _) : Ent)] at HZ
 rw [Nat.zero_add, Nat.zero_add, ins_new (sp := sp2) hp rfl (by omega) hvl (by rw [initL_length]; rfl) rfl] at HZ
 refine ⟨some g2, cap2, sp2, by rw [hie], by omega, ?_, (fun h => by cases h), HZ⟩
 rw [List.length_append] at hcz2 ⊢
 rw [hrow2] at hcz2
 have hp2 : Pl 4 (ps.take i ++ vs :: ps.drop i) := (hp.sub fun x hx => List.mem_of_mem_take hx).app fun x hx => by
   rcases List.mem_cons.1 hx with rfl | hx
   · exact hvl
   · exact hp x (List.mem_of_mem_drop hx)
 rw [hp2.len]
 have : (ps.take i ++ vs :: ps.drop i).length = ps.length + 1 := by rw [List.length_append, List.length_cons, List.length_take, List.length_drop]; omega
 rw [this]; exact hcz2
 refine Xr e95<|J4 rfl<|J6<|Rq<|Xm rfl<|Xm rfl<|Xm rfl<|OV (ex_add rfl rfl (IntWalk.i64_in _ (by omega)))<|cOp e95 ?_
 have hspl : 4 ≤ sp.length := by
   rw [List.length_append, hp.len] at hcz
   have : (ps.length + 1) * 4 ≤ cap * 4 := Nat.mul_le_mul_right _ (by omega)
   omega
 refine OV (ex_hi Tryz.underlying24 ty43 rfl rfl (i := ps.length + 1) (by omega) (by omega))<|Xa rfl<|Xr e95<|J1<|Rq<|Xm rfl<|Xm rfl<|Xm rfl<|Xm rfl<|cOp e95<|OV (ex_add rfl rfl (IntWalk.i64_in _ (by omega)))<|OV (ex_lo Tryz.underlying24 ty43 rfl rfl (i := i + 1) (by omega) (by omega) (by omega)) ?_
 have hgvh := H.keep hv hgv
 have hgxh := H.at (i := 0) rfl
 have hne : gv ≠ gx := fun h => hgv (by rw [h]; simp [bl])
 refine ops_extern (fn := (Tryz.prog.funcs[96]?).get!) (e := Extern.SlicesOverlaps.overlaps #[24, 24] #[4]) (v := .bool false) (by kernel_rfl) (by kernel_rfl) (by kernel_rfl) (by kernel_rfl) (by kernel_rfl) rfl (Lib.run_overlaps_apart w0 24 4 43 Tryz.underlying24 4 (fun w => run_sizeOf ty43) ⟨gv, 0, none⟩ _ 1 1 _ _ (by rw [addn]; exact hne) 43 43 4 _ (by simp [World.shape?, hgvh]; exact hvl) (by rw [addn]; simp only [World.shape?, hgxh]; rfl) (by simp only [List.size_toArray, List.length_append]; omega) (by simp [World.frozen?, hgvh]) (by simp [World.frozen?, hgvh]))<|Xn rfl<|Xr e95<|J3 rfl<|J1<|run_mixZ 8 [(true, 0), (true, 1), (true, 2), (true, 3), (true, 4), (true, 5), (true, 6), (true, 7), (false, 8)] H [0] mixed (by decide) (by kernel_rfl) ?_
 rintro w1 hw1
 have H1 := Hp.drew H; rw [← hw1] at H1
 refine Zm rfl rfl<|Zm rfl rfl<|Zm rfl rfl<|MP rfl<|MV (fun wz hz => ex_add rfl rfl (IntWalk.i64_in _ (by omega)))<|cZ e95<|MP rfl<|MV (fun wz hz => ex_lo Tryz.underlying24 ty43 rfl rfl (i := i + 1) (by omega) (by omega) (by omega))<|Zm rfl rfl<|Zm rfl rfl<|MP rfl<|MV (fun wz hz => ex_lo Tryz.underlying24 ty43 rfl rfl rfl (by omega) (by omega))<|cZ e95<|MO rfl ?_
 have hdl : (ps.flatten.drop (i * 4)).length = (ps.length - i) * 4 := by rw [List.length_drop, hp.len, ← Nat.sub_mul]
 have hlv : (i + 1) * 4 + (ps.length - i) * 4 = (ps.length + 1) * 4 := by rw [← Nat.add_mul, show i + 1 + (ps.length - i) = ps.length + 1 by omega]
 have hlw : (ps.length + 1) * 4 = ps.length * 4 + 4 := by omega
 refine ops_copyN Tryz.underlying24 ty43 H1 0 (o := 0 + (i + 1) * 4) (vs := ps.flatten.drop (i * 4)) (by first | rfl | (rw [← addn]; rfl)) rfl rfl (by rw [hdl]; show _ = Nat.min (ps.length + 1 - i) (ps.length + 1 - (i + 1)) * 4; rw [show Nat.min (ps.length + 1 - i) (ps.length + 1 - (i + 1)) = ps.length - i from (by show min _ _ = _; omega)]) (fun jx u hu => by
   rw [add_add, addn, Nat.zero_add]
   exact H1.cell (i := 0) rfl (by rw [List.getElem?_append_left (by have := lt_of_get hu; rw [List.length_drop] at this; omega)]; rwa [List.getElem?_drop] at hu)) (by rw [List.length_append, hp.len, hdl]; omega) (by rw [List.all_eq_true] at hones ⊢; exact fun x hx => hones x (List.mem_of_mem_drop hx)) ?_
 intro w2 H2
 refine OE ?_
 refine ⟨fun hne => absurd rfl hne, ?_⟩
 refine cZ e95<|ME<|cR e95<|Rq<|Xm rfl<|Xm rfl<|OV (ex_lo Tryz.underlying24 ty43 rfl rfl rfl (by omega) (by omega))<|Xm rfl<|cOp e95 ?_
 have hvr := (⟨by rw [hvl], fun a ha jx u hu => by cases ha; rw [addn, Nat.zero_add]; exact (by simp [World.cell?, H2.keep hv hgv, hu]), fun h => by cases h⟩ : Rd w2 (some ⟨gv, 0, none⟩) 1 4 vs)
 refine ops_copyN Tryz.underlying24 ty43 H2 0 (o := 0 + i * 4) (vs := vs) (by first | rfl | (rw [← addn]; rfl)) rfl rfl (by rw [hvl]; show 4 = Nat.min 1 (ps.length + 1 - i) * 4; rw [nminl]; omega) (fun jx u hu => hvr.cells _ rfl jx u hu) (by rw [putAt_len (by rw [List.length_append, hp.len, hdl]; omega), List.length_append, hp.len, hvl]; have : i * 4 ≤ ps.length * 4 := Nat.mul_le_mul_right _ (by omega); omega) hvo<|fun w3 H3=>Xr e95<|Rq<|Xm rfl<|Xa rfl<|Xr e95<|J5<|FN1 rfl rfl ?_
 have HZ := H3
 change Hp _ _ _ [((some gx, 43, putAt (putAt _ (0 + (i + 1) * 4) _) (0 + i * 4) _) : Ent)] at HZ
 rw [Nat.zero_add, Nat.zero_add, ins_in hp rfl (by omega) hvl hspl] at HZ
 have hp2 : Pl 4 (ps.take i ++ vs :: ps.drop i) := (hp.sub fun x hx => List.mem_of_mem_take hx).app fun x hx => by
   rcases List.mem_cons.1 hx with rfl | hx
   · exact hvl
   · exact hp x (List.mem_of_mem_drop hx)
 have hl3 : (ps.take i ++ vs :: ps.drop i).length = ps.length + 1 := by rw [List.length_append, List.length_cons, List.length_take, List.length_drop]; omega
 refine ⟨some gx, cap, sp.drop 4, rfl, by omega, ?_, (fun h => by cases h), HZ⟩
 rw [List.length_append, hp.len] at hcz
 rw [List.length_append, hp2.len, hl3, List.length_drop]
 omega
set_option maxRecDepth 100000 in
set_option maxHeartbeats 16000000 in
theorem insertM (g : Option Nat) (cap i gv n : Nat) (ps : List (List Value)) (hn : ps.length = n) (vs sp : List Value) (w0 : World) (H0 : Hp w0 w0 (bl [((g, 63, ps.flatten ++ sp) : Ent)]) [((g, 63, ps.flatten ++ sp) : Ent)]) (hp : Pl 7 ps) (ho : ∀ p ∈ ps, p.all (·.oneCell') = true) (hl : ps.length ≤ cap) (hcz : cap * 7 ≤ (ps.flatten ++ sp).length) (hg0 : g = none → cap = 0) (hi : i ≤ ps.length) (hv : w0.heap[gv]? = some (.cells vs.toArray 63 (0, 0))) (hvl : vs.length = 7) (hvo : vs.all (·.oneCell') = true) (hgv : gv ∉ bl [((g, 63, ps.flatten ++ sp) : Ent)]) (hb : (ps.length + 1) * 56 ≤ 211106232532992) : Does Tryz.prog 60 #[.slice (hd g) n cap, .int .i64 (i : Int), .slice (some ⟨gv, 0, none⟩) 1 1] w0 (fun r w' => ∃ g' cap' sp', r = .slice (hd g') (ps.length + 1) cap' ∧ ps.length + 1 ≤ cap' ∧ cap' * 7 ≤ ((ps.take i ++ vs :: ps.drop i).flatten ++ sp').length ∧ (g' = none → cap' = 0) ∧ Hp w0 w' (bl [((g, 63, ps.flatten ++ sp) : Ent)]) [((g', 63, (ps.take i ++ vs :: ps.drop i).flatten ++ sp') : Ent)]) := by
 refine does_of Tryz.func60 Tryz.ntmps60 rfl<|cR e95 ?_
 subst hn
 have H := H0
 have hrd := H.rd (i := 0) rfl hp.len (by decide)
 have hones := ones_flatten ho
 refine Rq<|Xa rfl<|Xr e95<|Rq<|Xm rfl<|Xm rfl<|OV (ex_cutLo Tryz.underlying25 ty63 rfl rfl ⟨by omega, by omega⟩)<|Xr e95<|Rq<|Xm rfl<|OV (ES Tryz.underlying25 rfl)<|Xa rfl<|Xr e95<|J1<|Rq<|Xm rfl<|OT0 (ex_eql rfl rfl) (by decide)<|Xr e95<|J4 rfl<|J6<|Rq<|Xm rfl<|OV (ES Tryz.underlying25 rfl)<|Xa rfl<|Xr e95<|J1<|Rq<|Xm rfl<|Xm rfl ?_
 refine OT (ex_eql rfl rfl) (fun hp22 => ?_) (fun hp22 => ?_)
 obtain rfl : i = ps.length := by omega
 refine Xr e95<|J3 rfl<|Rq<|Xm rfl<|Xm rfl ?_
 have hvr := (⟨by rw [hvl], fun a ha jx u hu => by cases ha; rw [addn, Nat.zero_add]; exact (by simp [World.cell?, H.keep hv hgv, hu]), fun h => by cases h⟩ : Rd w0 (some ⟨gv, 0, none⟩) 1 7 vs)
 refine ops_append Tryz.underlying25 ty63 (by decide) H 0 (g := g) (xs := ps.flatten) (sp := sp) rfl rfl hp.len hcz hl hg0 rfl hvr hvo (by omega) (by omega) (by decide)<|fun w1 g2 cap2 sp2 H1 hcz2 hl2 hg2=>Xa rfl<|Xr e95<|J5<|FN1 rfl rfl ?_
 have e1 : (ps.take ps.length ++ vs :: ps.drop ps.length).flatten = ps.flatten ++ vs := by rw [List.take_length, List.drop_length]; simp
 refine ⟨g2, cap2, sp2, rfl, hl2, by rw [e1]; exact hcz2, hg2, ?_⟩
 rw [e1]
 exact H1
 have hil : i < ps.length := by omega
 obtain ⟨gx, rfl⟩ := own_some H (i := 0) rfl (by rw [List.length_append, hp.len]; have : 0 < ps.length * 7 := Nat.mul_pos (by omega) (by decide); omega)
 refine Xr e95<|J4 rfl<|J6<|J1<|Rq<|Xm rfl<|Xm rfl<|OV (ex_add rfl rfl (IntWalk.i64_in _ (by omega)))<|Xm rfl<|cOp e95<|OV (ex_cap_slice Tryz.underlying25 rfl)<|OT (ex_gtr rfl rfl) (fun hp31 => ?_) (fun hp31 => ?_)
 refine Xr e95<|J3 rfl<|Rq<|Xm rfl<|Xm rfl<|OV (ex_hi Tryz.underlying25 ty63 rfl rfl rfl (by omega))<|Xm rfl<|cOp e95<|Xm rfl<|OV (ex_add rfl rfl (IntWalk.i64_in _ (by omega)))<|Xm rfl<|OV (ex_sub rfl rfl ((IntWalk.i64_in _ (by omega)).trans (show ((ps.length : Int) + 1 - (i : Int)) = ((ps.length + 1 - i : Nat) : Int) by omega)))<|cOp e95<|ops_append0 Tryz.underlying25 Tryz.underlying3 ty63 (by decide) H rfl (hrd.headN (by omega) (fun h => by cases h)) rfl (by omega) (by omega) (by omega) (by omega) (by decide)<|fun w1 g2 cap2 sp2 H1 hcz2 hl2=>Xa rfl<|Xr e95<|Rq<|Xm rfl<|Xm rfl ?_
 have hie : i + (ps.length + 1 - i) = ps.length + 1 := by omega
 have hrow2 : (ps.flatten.take (i * 7) ++ initL [.int .i64 0, .int .i64 0, .bool false, .int .i64 0, .int .i64 0, .int .i64 0, .int .i64 0] (ps.length + 1 - i)).length = (ps.length + 1) * 7 := by
   rw [List.length_append, List.length_take, hp.len, initL_length, Nat.min_eq_left (Nat.mul_le_mul_right _ (by omega))]
   show i * 7 + (ps.length + 1 - i) * 7 = _
   rw [← Nat.add_mul, hie]
 have hlv : (i + 1) * 7 ≤ (ps.length + 1) * 7 := Nat.mul_le_mul_right _ (by omega)
 have hvr := (⟨by rw [hvl], fun a ha jx u hu => by cases ha; rw [addn, Nat.zero_add]; exact (by simp [World.cell?, H1.keep hv hgv, hu]), fun h => by cases h⟩ : Rd w1 (some ⟨gv, 0, none⟩) 1 7 vs)
 refine OV (ex_lo Tryz.underlying25 ty63 rfl rfl rfl (by omega) (by omega))<|Xm rfl<|cOp e95<|ops_copyN Tryz.underlying25 ty63 H1 1 (o := 0 + i * 7) (vs := vs) (by first | rfl | (rw [← addn]; rfl)) rfl rfl (by rw [hvl]; show 7 = Nat.min 1 (i + (ps.length + 1 - i) - i) * 7; rw [nminl]; omega) (fun jx u hu => hvr.cells _ rfl jx u hu) (by rw [List.length_append, hrow2, hvl]; omega) hvo<|fun w2 H2=>Xr e95<|J1<|run_mixZ 8 [(true, 0), (true, 1), (true, 2), (true, 3), (true, 4), (true, 5), (true, 6), (true, 7), (false, 8)] H2 [0, 1] mixed (by decide) (by kernel_rfl) ?_
 rintro w3 hw3
 have H3 := Hp.drew H2; rw [← hw3] at H3
 refine Zm rfl rfl<|Zm rfl rfl<|Zm rfl rfl<|MP rfl<|MV (fun wz hz => ex_add rfl rfl (IntWalk.i64_in _ (by omega)))<|cZ e95<|MP rfl<|MV (fun wz hz => ex_lo Tryz.underlying25 ty63 rfl rfl (i := i + 1) (by omega) (by omega) (by omega))<|Zm rfl rfl<|Zm rfl rfl<|MP rfl<|MV (fun wz hz => ex_lo Tryz.underlying25 ty63 rfl rfl rfl (by omega) (by omega))<|cZ e95<|MO rfl ?_
 have hdl : (ps.flatten.drop (i * 7)).length = (ps.length - i) * 7 := by rw [List.length_drop, hp.len, ← Nat.sub_mul]
 refine ops_copyN Tryz.underlying25 ty63 H3 1 (o := 0 + (i + 1) * 7) (vs := ps.flatten.drop (i * 7)) (by first | rfl | (rw [← addn]; rfl)) rfl rfl (by rw [hdl]; show _ = Nat.min (ps.length - i) (i + (ps.length + 1 - i) - (i + 1)) * 7; rw [nminl]; omega) (fun jx u hu => by
   rw [add_add, addn, Nat.zero_add]
   exact H3.cell (i := 0) rfl (by rw [List.getElem?_append_left (by have := lt_of_get hu; rw [List.length_drop] at this; omega)]; rwa [List.getElem?_drop] at hu)) (by rw [putAt_len (by rw [List.length_append, hrow2, hvl]; omega), List.length_append, hrow2, hdl, Nat.zero_add, ← Nat.add_mul, show i + 1 + (ps.length - i) = ps.length + 1 by omega]; omega) (by rw [List.all_eq_true] at hones ⊢; exact fun x hx => hones x (List.mem_of_mem_drop hx)) ?_
 intro w4 H4
 refine OE ?_
 refine ⟨fun hne => absurd rfl hne, ?_⟩
 refine cZ e95<|ME<|cR e95<|Rq<|Xm rfl<|Xa rfl<|Xr e95<|J5<|FN1 rfl rfl ?_
 have HZ := H4.pick [1] (by decide)
 change Hp _ _ _ [((some g2, 63, putAt (putAt _ (0 + i * 7) _) (0 + (i + 1) * 7) _) : Ent)] at HZ
 rw [Nat.zero_add, Nat.zero_add, ins_new (sp := sp2) hp rfl (by omega) hvl (by rw [initL_length]; rfl) rfl] at HZ
 refine ⟨some g2, cap2, sp2, by rw [hie], by omega, ?_, (fun h => by cases h), HZ⟩
 rw [List.length_append] at hcz2 ⊢
 rw [hrow2] at hcz2
 have hp2 : Pl 7 (ps.take i ++ vs :: ps.drop i) := (hp.sub fun x hx => List.mem_of_mem_take hx).app fun x hx => by
   rcases List.mem_cons.1 hx with rfl | hx
   · exact hvl
   · exact hp x (List.mem_of_mem_drop hx)
 rw [hp2.len]
 have : (ps.take i ++ vs :: ps.drop i).length = ps.length + 1 := by rw [List.length_append, List.length_cons, List.length_take, List.length_drop]; omega
 rw [this]; exact hcz2
 refine Xr e95<|J4 rfl<|J6<|Rq<|Xm rfl<|Xm rfl<|Xm rfl<|OV (ex_add rfl rfl (IntWalk.i64_in _ (by omega)))<|cOp e95 ?_
 have hspl : 7 ≤ sp.length := by
   rw [List.length_append, hp.len] at hcz
   have : (ps.length + 1) * 7 ≤ cap * 7 := Nat.mul_le_mul_right _ (by omega)
   omega
 refine OV (ex_hi Tryz.underlying25 ty63 rfl rfl (i := ps.length + 1) (by omega) (by omega))<|Xa rfl<|Xr e95<|J1<|Rq<|Xm rfl<|Xm rfl<|Xm rfl<|Xm rfl<|cOp e95<|OV (ex_add rfl rfl (IntWalk.i64_in _ (by omega)))<|OV (ex_lo Tryz.underlying25 ty63 rfl rfl (i := i + 1) (by omega) (by omega) (by omega)) ?_
 have hgvh := H.keep hv hgv
 have hgxh := H.at (i := 0) rfl
 have hne : gv ≠ gx := fun h => hgv (by rw [h]; simp [bl])
 refine ops_extern (fn := (Tryz.prog.funcs[82]?).get!) (e := Extern.SlicesOverlaps.overlaps #[25, 25] #[4]) (v := .bool false) (by kernel_rfl) (by kernel_rfl) (by kernel_rfl) (by kernel_rfl) (by kernel_rfl) rfl (Lib.run_overlaps_apart w0 25 4 63 Tryz.underlying25 7 (fun w => run_sizeOf ty63) ⟨gv, 0, none⟩ _ 1 1 _ _ (by rw [addn]; exact hne) 63 63 7 _ (by simp [World.shape?, hgvh]; exact hvl) (by rw [addn]; simp only [World.shape?, hgxh]; rfl) (by simp only [List.size_toArray, List.length_append]; omega) (by simp [World.frozen?, hgvh]) (by simp [World.frozen?, hgvh]))<|Xn rfl<|Xr e95<|J3 rfl<|J1<|run_mixZ 8 [(true, 0), (true, 1), (true, 2), (true, 3), (true, 4), (true, 5), (true, 6), (true, 7), (false, 8)] H [0] mixed (by decide) (by kernel_rfl) ?_
 rintro w1 hw1
 have H1 := Hp.drew H; rw [← hw1] at H1
 refine Zm rfl rfl<|Zm rfl rfl<|Zm rfl rfl<|MP rfl<|MV (fun wz hz => ex_add rfl rfl (IntWalk.i64_in _ (by omega)))<|cZ e95<|MP rfl<|MV (fun wz hz => ex_lo Tryz.underlying25 ty63 rfl rfl (i := i + 1) (by omega) (by omega) (by omega))<|Zm rfl rfl<|Zm rfl rfl<|MP rfl<|MV (fun wz hz => ex_lo Tryz.underlying25 ty63 rfl rfl rfl (by omega) (by omega))<|cZ e95<|MO rfl ?_
 have hdl : (ps.flatten.drop (i * 7)).length = (ps.length - i) * 7 := by rw [List.length_drop, hp.len, ← Nat.sub_mul]
 have hlv : (i + 1) * 7 + (ps.length - i) * 7 = (ps.length + 1) * 7 := by rw [← Nat.add_mul, show i + 1 + (ps.length - i) = ps.length + 1 by omega]
 have hlw : (ps.length + 1) * 7 = ps.length * 7 + 7 := by omega
 refine ops_copyN Tryz.underlying25 ty63 H1 0 (o := 0 + (i + 1) * 7) (vs := ps.flatten.drop (i * 7)) (by first | rfl | (rw [← addn]; rfl)) rfl rfl (by rw [hdl]; show _ = Nat.min (ps.length + 1 - i) (ps.length + 1 - (i + 1)) * 7; rw [show Nat.min (ps.length + 1 - i) (ps.length + 1 - (i + 1)) = ps.length - i from (by show min _ _ = _; omega)]) (fun jx u hu => by
   rw [add_add, addn, Nat.zero_add]
   exact H1.cell (i := 0) rfl (by rw [List.getElem?_append_left (by have := lt_of_get hu; rw [List.length_drop] at this; omega)]; rwa [List.getElem?_drop] at hu)) (by rw [List.length_append, hp.len, hdl]; omega) (by rw [List.all_eq_true] at hones ⊢; exact fun x hx => hones x (List.mem_of_mem_drop hx)) ?_
 intro w2 H2
 refine OE ?_
 refine ⟨fun hne => absurd rfl hne, ?_⟩
 refine cZ e95<|ME<|cR e95<|Rq<|Xm rfl<|Xm rfl<|OV (ex_lo Tryz.underlying25 ty63 rfl rfl rfl (by omega) (by omega))<|Xm rfl<|cOp e95 ?_
 have hvr := (⟨by rw [hvl], fun a ha jx u hu => by cases ha; rw [addn, Nat.zero_add]; exact (by simp [World.cell?, H2.keep hv hgv, hu]), fun h => by cases h⟩ : Rd w2 (some ⟨gv, 0, none⟩) 1 7 vs)
 refine ops_copyN Tryz.underlying25 ty63 H2 0 (o := 0 + i * 7) (vs := vs) (by first | rfl | (rw [← addn]; rfl)) rfl rfl (by rw [hvl]; show 7 = Nat.min 1 (ps.length + 1 - i) * 7; rw [nminl]; omega) (fun jx u hu => hvr.cells _ rfl jx u hu) (by rw [putAt_len (by rw [List.length_append, hp.len, hdl]; omega), List.length_append, hp.len, hvl]; have : i * 7 ≤ ps.length * 7 := Nat.mul_le_mul_right _ (by omega); omega) hvo<|fun w3 H3=>Xr e95<|Rq<|Xm rfl<|Xa rfl<|Xr e95<|J5<|FN1 rfl rfl ?_
 have HZ := H3
 change Hp _ _ _ [((some gx, 63, putAt (putAt _ (0 + (i + 1) * 7) _) (0 + i * 7) _) : Ent)] at HZ
 rw [Nat.zero_add, Nat.zero_add, ins_in hp rfl (by omega) hvl hspl] at HZ
 have hp2 : Pl 7 (ps.take i ++ vs :: ps.drop i) := (hp.sub fun x hx => List.mem_of_mem_take hx).app fun x hx => by
   rcases List.mem_cons.1 hx with rfl | hx
   · exact hvl
   · exact hp x (List.mem_of_mem_drop hx)
 have hl3 : (ps.take i ++ vs :: ps.drop i).length = ps.length + 1 := by rw [List.length_append, List.length_cons, List.length_take, List.length_drop]; omega
 refine ⟨some gx, cap, sp.drop 7, rfl, by omega, ?_, (fun h => by cases h), HZ⟩
 rw [List.length_append, hp.len] at hcz
 rw [List.length_append, hp2.len, hl3, List.length_drop]
 omega
end Go.Proofs.YtbninklfoogmdaaGreat
/- Walks of layer 2, printed by wip/gen/codec.py. -/
namespace Go.Proofs.YtbninklfoogmdaaGreat
open Go Go.RowKit
set_option linter.unusedVariables false
attribute [local irreducible] Still Ops Does Cd
set_option maxRecDepth 100000 in
set_option maxHeartbeats 4000000 in
theorem voteC (s n : Int) (c1 c2 c3 : Value) (w0 : World) : Does Tryz.prog 87 #[.agg [.int .i64 s, c1, c2, c3].toArray, .int .i64 n] w0 (fun r w' => r = .int .i64 (cmpI s n) ∧ Hp w0 w' [] []) := by
 refine does_of Tryz.func87 Tryz.ntmps87 rfl<|cR e15 ?_
 have H := Hp.refl w0
 refine Rq<|ops_box rfl rfl H<|fun w1 g1 H1 hg1=>Xa rfl<|Xr e15<|J1<|J7<|Rq<|Xf fl39_0 rfl<|OV (EL ty3 rfl (H1.cell (i := 0) rfl rfl))<|Xm rfl<|OT (ex_lss rfl rfl) (fun hp9 => ?_) (fun hp9 => ?_)
 refine Xa rfl<|Xr e15<|J3 rfl<|Rq<|Xa rfl<|Xr e15<|J5<|BR<|FN1 rfl rfl<|⟨by unfold cmpI; rw [if_pos (by omega)], H1.noRows⟩
 refine Xa rfl<|Xr e15<|J4 rfl<|Rq<|Xf fl39_0 rfl<|OV (EL ty3 rfl (H1.cell (i := 0) rfl rfl))<|Xm rfl<|OT (ex_gtr rfl rfl) (fun hp14 => ?_) (fun hp14 => ?_)
 refine Xa rfl<|Xr e15<|J3 rfl<|Rq<|Xa rfl<|Xr e15<|J5<|BR<|FN1 rfl rfl<|⟨by unfold cmpI; rw [if_neg (by omega), if_pos (by omega)], H1.noRows⟩
 refine Xa rfl<|Xr e15<|J4 rfl<|J6<|run_nil (blk_normal ?_)
 refine Rq<|Xa rfl<|Xr e15<|J5<|FN1 rfl rfl<|⟨by unfold cmpI; rw [if_neg (by omega), if_neg (by omega)], H1.noRows⟩
set_option maxRecDepth 100000 in
set_option maxHeartbeats 4000000 in
theorem placeC (s n : Int) (c1 c2 c3 c4 c5 c6 : Value) (w0 : World) : Does Tryz.prog 99 #[.agg [.int .i64 s, c1, c2, c3, c4, c5, c6].toArray, .int .i64 n] w0 (fun r w' => r = .int .i64 (cmpI s n) ∧ Hp w0 w' [] []) := by
 refine does_of Tryz.func99 Tryz.ntmps99 rfl<|cR e15 ?_
 have H := Hp.refl w0
 refine Rq<|ops_box rfl rfl H<|fun w1 g1 H1 hg1=>Xa rfl<|Xr e15<|J1<|J7<|Rq<|Xf fl63_0 rfl<|OV (EL ty3 rfl (H1.cell (i := 0) rfl rfl))<|Xm rfl<|OT (ex_lss rfl rfl) (fun hp9 => ?_) (fun hp9 => ?_)
 refine Xa rfl<|Xr e15<|J3 rfl<|Rq<|Xa rfl<|Xr e15<|J5<|BR<|FN1 rfl rfl<|⟨by unfold cmpI; rw [if_pos (by omega)], H1.noRows⟩
 refine Xa rfl<|Xr e15<|J4 rfl<|Rq<|Xf fl63_0 rfl<|OV (EL ty3 rfl (H1.cell (i := 0) rfl rfl))<|Xm rfl<|OT (ex_gtr rfl rfl) (fun hp14 => ?_) (fun hp14 => ?_)
 refine Xa rfl<|Xr e15<|J3 rfl<|Rq<|Xa rfl<|Xr e15<|J5<|BR<|FN1 rfl rfl<|⟨by unfold cmpI; rw [if_neg (by omega), if_pos (by omega)], H1.noRows⟩
 refine Xa rfl<|Xr e15<|J4 rfl<|J6<|run_nil (blk_normal ?_)
 refine Rq<|Xa rfl<|Xr e15<|J5<|FN1 rfl rfl<|⟨by unfold cmpI; rw [if_neg (by omega), if_neg (by omega)], H1.noRows⟩
set_option maxRecDepth 100000 in
set_option maxHeartbeats 4000000 in
theorem behindC (s n : Int) (c1 c2 c3 : Value) (w0 : World) (gc : Nat) (gcs : List Value) (Tc : TypeId) (hgc : w0.heap[gc]? = some (.cells gcs.toArray Tc (0, 0))) (hv : gcs[0]? = some (.int .i64 n)) : Does Tryz.prog 104 #[.agg [.int .i64 s, c1, c2, c3].toArray, .pointer (some ⟨gc, 0, none⟩)] w0 (fun r w' => r = .bool (decide (s ≤ n)) ∧ Hp w0 w' [] []) := by
 refine does_of Tryz.func104 Tryz.ntmps104 rfl<|cR e8 ?_
 have H := Hp.refl w0
 refine Rq<|ops_box rfl rfl H<|fun w1 g1 H1 hg1=>Xa rfl<|Xr e8<|Rq<|Xf fl39_0 rfl<|OV (EL ty3 rfl (H1.cell (i := 0) rfl rfl))<|OV (EL ty3 rfl (cell_at (H1.keep hgc (by simp)) hv))<|OT (ex_leq rfl rfl) (fun hp7 => ?_) (fun hp7 => ?_)
 refine Xa rfl<|Xr e8<|J5<|FN1 rfl rfl<|⟨bt (by omega), H1.noRows⟩
 refine Xa rfl<|Xr e8<|J5<|FN1 rfl rfl<|⟨bf (by omega), H1.noRows⟩
set_option maxRecDepth 100000 in
set_option maxHeartbeats 4000000 in
theorem imageC (s n : Int) (c1 : Value) (w0 : World) (gc : Nat) (gcs : List Value) (Tc : TypeId) (hgc : w0.heap[gc]? = some (.cells gcs.toArray Tc (0, 0))) (hv : gcs[0]? = some (.int .i64 n)) : Does Tryz.prog 91 #[.agg [.int .i64 s, c1].toArray, .pointer (some ⟨gc, 0, none⟩)] w0 (fun r w' => r = .bool (decide (s ≤ n)) ∧ Hp w0 w' [] []) := by
 refine does_of Tryz.func91 Tryz.ntmps91 rfl<|cR e9 ?_
 have H := Hp.refl w0
 refine Rq<|ops_box rfl rfl H<|fun w1 g1 H1 hg1=>Xa rfl<|Xr e9<|Rq<|Xf fl41_0 rfl<|OV (EL ty3 rfl (H1.cell (i := 0) rfl rfl))<|Xf fl41_0 rfl<|OV (EL ty3 rfl (cell_at (H1.keep hgc (by simp)) hv))<|cOp e9<|OT (ex_leq rfl rfl) (fun hp8 => ?_) (fun hp8 => ?_)
 refine Xa rfl<|Xr e9<|J5<|FN1 rfl rfl<|⟨bt (by omega), H1.noRows⟩
 refine Xa rfl<|Xr e9<|J5<|FN1 rfl rfl<|⟨bf (by omega), H1.noRows⟩
set_option maxRecDepth 100000 in
set_option maxHeartbeats 4000000 in
theorem spentC (s n : Int) (c1 c2 c3 c4 c5 c6 : Value) (w0 : World) (gc : Nat) (gcs : List Value) (Tc : TypeId) (hgc : w0.heap[gc]? = some (.cells gcs.toArray Tc (0, 0))) (hv : gcs[14]? = some (.int .i64 n)) : Does Tryz.prog 59 #[.agg [.int .i64 s, c1, c2, c3, c4, c5, c6].toArray, .pointer (some ⟨gc, 0, none⟩)] w0 (fun r w' => r = .bool (decide (s = n)) ∧ Hp w0 w' [] []) := by
 refine does_of Tryz.func59 Tryz.ntmps59 rfl<|cR e9 ?_
 have H := Hp.refl w0
 refine Rq<|ops_box rfl rfl H<|fun w1 g1 H1 hg1=>Xa rfl<|Xr e9<|Rq<|Xf fl63_0 rfl<|OV (EL ty3 rfl (H1.cell (i := 0) rfl rfl))<|Xf fl45_6 rfl<|OV (EL ty3 rfl (cell_at (H1.keep hgc (by simp)) hv))<|cOp e9<|OT (ex_eql rfl rfl) (fun hp8 => ?_) (fun hp8 => ?_)
 refine Xa rfl<|Xr e9<|J5<|FN1 rfl rfl<|⟨bt (by omega), H1.noRows⟩
 refine Xa rfl<|Xr e9<|J5<|FN1 rfl rfl<|⟨bf (by omega), H1.noRows⟩
set_option maxRecDepth 100000 in
set_option maxHeartbeats 4000000 in
theorem cmpstr (a b : Blk) (w0 : World) : Does Tryz.prog 109 #[strV a, strV b] w0 (fun r w' => r = .int .i64 (Lib.compareBytes a b) ∧ Hp w0 w' [] []) := by
 refine does_of Tryz.func109 Tryz.ntmps109 rfl<|cR e8 ?_
 have H := Hp.refl w0
 refine Rq<|Xa rfl<|Xr e8<|Rq<|Xm rfl<|Xm rfl<|ops_extern (fn := (Tryz.prog.funcs[114]?).get!) (e := Extern.BytealgCompare.compare) (v := .int .i64 (Lib.compareBytes a b)) (by kernel_rfl) (by kernel_rfl) (by kernel_rfl) (by kernel_rfl) (by kernel_rfl) rfl (Lib.run_compareString ⟨a.toArray⟩ ⟨b.toArray⟩ _)<|Xa rfl<|Xr e8<|J5<|FN1 rfl rfl<|⟨rfl, H⟩
set_option maxRecDepth 100000 in
set_option maxHeartbeats 4000000 in
theorem strcmp (a b : Blk) (w0 : World) : Does Tryz.prog 95 #[strV a, strV b] w0 (fun r w' => r = .int .i64 (Lib.compareBytes a b) ∧ Hp w0 w' [] []) := by
 refine does_of Tryz.func95 Tryz.ntmps95 rfl<|cR e8 ?_
 have H := Hp.refl w0
 refine Rq<|Xa rfl<|Xr e8<|Rq<|Xm rfl<|Xm rfl<|OC (EC gf109 rfl) (cmpstr _ _ _)<|fun w1 Hd=>have H1:=H.callN Hd;Xa rfl<|Xr e8<|J5<|FN1 rfl rfl<|⟨rfl, H1⟩
set_option maxRecDepth 100000 in
set_option maxHeartbeats 4000000 in
theorem orderC (a b : Rt) (w0 : World) : Does Tryz.prog 77 #[.agg [.int .i64 a.g, strV a.key, .int .i64 a.lease, .int .i64 a.net].toArray, .agg [.int .i64 b.g, strV b.key, .int .i64 b.lease, .int .i64 b.net].toArray] w0 (fun r w' => r = .int .i64 (ordR a b) ∧ Hp w0 w' [] []) := by
 refine does_of Tryz.func77 Tryz.ntmps77 rfl<|cR e20 ?_
 have H := Hp.refl w0
 refine Rq<|ops_box rfl rfl H<|fun w1 g1 H1 hg1=>ops_box rfl rfl H1<|fun w2 g2 H2 hg2=>Xa rfl<|Xr e20<|J1<|Rq<|Xf fl43_0 rfl<|OV (EL ty3 rfl (H2.cell (i := 0) rfl rfl))<|Xf fl43_0 rfl<|OV (EL ty3 rfl (H2.cell (i := 1) rfl rfl))<|cOp e20<|OT (ex_neq rfl rfl) (fun hp9 => ?_) (fun hp9 => ?_)
 refine Xr e20<|J3 rfl<|J1<|Rq<|Xf fl43_0 rfl<|OV (EL ty3 rfl (H2.cell (i := 0) rfl rfl))<|Xf fl43_0 rfl<|OV (EL ty3 rfl (H2.cell (i := 1) rfl rfl))<|cOp e20<|OT (ex_lss rfl rfl) (fun hp14 => ?_) (fun hp14 => ?_)
 refine Xr e20<|J3 rfl<|Rq<|Xa rfl<|Xr e20<|J5<|FN1 rfl rfl<|⟨by unfold ordR; rw [if_pos (by omega), if_pos (by omega)], H2.noRows⟩
 refine Xr e20<|J4 rfl<|J6<|Rq<|Xa rfl<|Xr e20<|J5<|FN1 rfl rfl<|⟨by unfold ordR; rw [if_pos (by omega), if_neg (by omega)], H2.noRows⟩
 refine Xr e20<|J4 rfl<|J6<|Rq<|Xf fl43_1 rfl<|OV (EL ty9 rfl (H2.cell (i := 0) rfl rfl))<|Xf fl43_1 rfl<|OV (EL ty9 rfl (H2.cell (i := 1) rfl rfl))<|cOp e20<|OC (EC gf95 rfl) (strcmp _ _ _)<|fun w3 Hd=>have H3:=H2.callN Hd;Xa rfl<|Xr e20<|J5<|FN1 rfl rfl<|⟨by unfold ordR; rw [if_neg (by omega)], H3.noRows⟩
theorem cmp_vote {w : World} {ok : Nat → Prop} {n : Int} {ps : List (List Value)} {l : List Vt} (h2 : All2 (VtR w ok) ps l) (hr : Rise (fun x : Vt => cmpI x.slot n) l) : Cmp Tryz.prog 87 (.int .i64 n) (vtCf n) ps :=
  ⟨gf87, fun w1 p hp => by
    obtain ⟨i, hi⟩ := List.getElem?_of_mem hp
    obtain ⟨x, _, hR⟩ := h2.getL hi
    obtain ⟨A, k, rfl, _⟩ := hR
    exact voteC x.slot n _ _ _ w1, hr.mono h2 fun p x h => vtCf_eq h⟩
theorem cmp_mark {n : Int} {ps : List (List Value)} {l : List Mk} (h2 : All2 MkR ps l) (hr : Rise (fun x : Mk => cmpI x.client n) l) : Cmp Tryz.prog 99 (.int .i64 n) (mkCf n) ps :=
  ⟨gf99, fun w1 p hp => by
    obtain ⟨i, hi⟩ := List.getElem?_of_mem hp
    obtain ⟨x, _, hR⟩ := h2.getL hi
    unfold MkR at hR
    subst hR
    exact placeC x.client n _ _ _ _ _ _ w1, hr.mono h2 fun p x h => mkCf_eq h⟩
theorem cmp_right {r : Rt} {ps : List (List Value)} {l : List Rt} (h2 : All2 RtR ps l) (hr : Rise (fun x : Rt => ordR x r) l) : Cmp Tryz.prog 77 (.agg (rtC r).toArray) (rtCf r) ps :=
  ⟨gf77, fun w1 p hp => by
    obtain ⟨i, hi⟩ := List.getElem?_of_mem hp
    obtain ⟨x, _, hR⟩ := h2.getL hi
    have e := rtCf_eq (r := r) hR
    unfold RtR at hR
    subst hR
    rw [e]
    exact orderC x r w1, hr.mono h2 fun p x h => rtCf_eq h⟩
theorem prd_behind {w w0 : World} {ok : Nat → Prop} {n : Int} {gc : Nat} {gcs : List Value} {Tc : TypeId} {ps : List (List Value)} {l : List Vt} (h2 : All2 (VtR w ok) ps l) (hgc : w0.heap[gc]? = some (.cells gcs.toArray Tc (0, 0))) (hv : gcs[0]? = some (.int .i64 n)) : Prd Tryz.prog 104 gc (vtLe n) ps w0 :=
  ⟨gf104, (Array.getElem?_eq_some_iff.1 hgc).1, fun w1 h1 p hp => by
    obtain ⟨i, hi⟩ := List.getElem?_of_mem hp
    obtain ⟨x, _, hR⟩ := h2.getL hi
    obtain ⟨A, k, rfl, _⟩ := hR
    exact behindC x.slot n _ _ _ w1 gc gcs Tc (h1.trans hgc) hv⟩
theorem prd_image {w w0 : World} {ok : Nat → Prop} {n : Int} {gc : Nat} {gcs : List Value} {Tc : TypeId} {ps : List (List Value)} {l : List En} (h2 : All2 (EnR w ok) ps l) (hgc : w0.heap[gc]? = some (.cells gcs.toArray Tc (0, 0))) (hv : gcs[0]? = some (.int .i64 n)) : Prd Tryz.prog 91 gc (vtLe n) ps w0 :=
  ⟨gf91, (Array.getElem?_eq_some_iff.1 hgc).1, fun w1 h1 p hp => by
    obtain ⟨i, hi⟩ := List.getElem?_of_mem hp
    obtain ⟨x, _, hR⟩ := h2.getL hi
    obtain ⟨A, k, rfl, _⟩ := hR
    exact imageC x.slot n _ w1 gc gcs Tc (h1.trans hgc) hv⟩
theorem prd_spent {w0 : World} {n : Int} {gc : Nat} {gcs : List Value} {Tc : TypeId} {ps : List (List Value)} {l : List Mk} (h2 : All2 MkR ps l) (hgc : w0.heap[gc]? = some (.cells gcs.toArray Tc (0, 0))) (hv : gcs[14]? = some (.int .i64 n)) : Prd Tryz.prog 59 gc (mkIs n) ps w0 :=
  ⟨gf59, (Array.getElem?_eq_some_iff.1 hgc).1, fun w1 h1 p hp => by
    obtain ⟨i, hi⟩ := List.getElem?_of_mem hp
    obtain ⟨x, _, hR⟩ := h2.getL hi
    unfold MkR at hR
    subst hR
    exact spentC x.client n _ _ _ _ _ _ w1 gc gcs Tc (h1.trans hgc) hv⟩
end Go.Proofs.YtbninklfoogmdaaGreat
/- Walks of layer 2, printed by wip/gen/codec.py. -/
namespace Go.Proofs.YtbninklfoogmdaaGreat
open Go Go.RowKit
set_option linter.unusedVariables false
attribute [local irreducible] Still Ops Does Cd
set_option maxRecDepth 100000 in
set_option maxHeartbeats 4000000 in
theorem last_v (gs : Nat) (c0 c1 c2 c4 : Value) (x : Int) (A3 : Option Addr) (m k3 : Nat) (w0 : World) (hrow : w0.heap[gs]? = some (.cells [c0, c1, c2, .int .i64 x, c4, .slice A3 m k3].toArray 57 (0, 0))) (hx : -1000000000000000000 ≤ x ∧ x ≤ 1000000000000000000) (hm : m ≤ 1000000000000000000) : Does Tryz.prog 85 #[.pointer (some ⟨gs, 0, none⟩)] w0 (fun r w' => r = .int .i64 (x + m) ∧ Hp w0 w' [] []) := by
 refine does_of Tryz.func85 Tryz.ntmps85 rfl<|cR e13 ?_
 have H := Hp.refl w0
 refine Rq<|Xa rfl<|Xr e13<|J1<|run_mixZ 10 [(true, 0), (true, 1), (true, 2), (true, 3), (true, 4), (true, 5), (true, 6), (true, 7), (true, 8), (true, 9), (false, 10)] H [] mixed (by decide) (by kernel_rfl) ?_
 rintro w1 hw1
 have H1 := Hp.drew H; rw [← hw1] at H1
 refine Zm rfl rfl<|Zc rfl rfl<|Zf rfl fl57_2 rfl<|MP rfl<|MV (fun wz hz => EL ty3 rfl (cell_at (hz.keep hrow (by simp)) rfl))<|cZ e13<|Zm rfl rfl<|Zc rfl rfl<|Zf rfl fl57_4 rfl<|MP rfl<|MV (fun wz hz => EL ty55 rfl (cell_at (hz.keep hrow (by simp)) rfl))<|cZ e13<|MP rfl<|MV (fun wz hz => ES Tryz.underlying55 rfl)<|MP rfl<|MV (fun wz hz => ex_add rfl rfl (IntWalk.i64_in _ (by omega)))<|MO rfl<|Xa rfl<|OE<|⟨fun hne => absurd rfl hne, ?_⟩
 refine cZ e13<|ME<|cR e13<|J5<|FN1 rfl rfl<|⟨rfl, H1.noRows⟩
set_option maxRecDepth 100000 in
set_option maxHeartbeats 4000000 in
theorem promise_v (gs : Nat) (p : Bal) (c2 c3 c4 c5 : Value) (n : Nt) (B1 : Option Addr) (j1 : Nat) (B2 : Option Addr) (j2 : Nat) (w0 : World) (hrow : w0.heap[gs]? = some (.cells [.int .i64 p.r, .int .i64 p.n, c2, c3, c4, c5].toArray 57 (0, 0))) : Does Tryz.prog 61 #[.pointer (some ⟨gs, 0, none⟩), .agg [.int .i64 n.kind, .int .i64 n.group, .int .i64 n.b.r, .int .i64 n.b.n, .int .i64 n.vote.slot, .int .i64 n.vote.b.r, .int .i64 n.vote.b.n, .slice B1 n.vote.val.length j1, .int .i64 n.entry.slot, .slice B2 n.entry.val.length j2, .int .i64 n.right.g, strV n.right.key, .int .i64 n.right.lease, .int .i64 n.right.net, .int .i64 n.client, .int .i64 n.seq].toArray] w0 (fun _ w' => Hp w0 w' [gs] [((some gs, 57, [.int .i64 (rz p n.b).r, .int .i64 (rz p n.b).n, c2, c3, c4, c5]) : Ent)]) := by
 refine does_of Tryz.func61 Tryz.ntmps61 rfl<|cR e16 ?_
 have H := Hp.old hrow
 refine Rq<|ops_box rfl rfl H<|fun w1 g1 H1 hg1=>Xr e16<|J1<|run_mixZ 6 [(true, 0), (true, 1), (true, 2), (true, 3), (true, 4), (true, 5), (false, 6)] H1 [0, 1] mixed (by decide) (by kernel_rfl) ?_
 rintro w2 hw2
 have H2 := Hp.drew H1; rw [← hw2] at H2
 refine Zm rfl rfl<|Zc rfl rfl<|Zf rfl fl57_0 rfl<|MP rfl<|MV (fun wz hz => EN ty36 rfl (vs := [.int .i64 p.r, .int .i64 p.n]) rfl (hz.cellsR (i := 0) rfl rfl))<|cZ e16<|Zf rfl fl45_2 rfl<|MP rfl<|MV (fun wz hz => EN ty36 rfl (vs := [.int .i64 n.b.r, .int .i64 n.b.n]) rfl (hz.cellsR (i := 1) rfl rfl))<|MO rfl<|OX (EC gf84 rfl) (less_b _ _ _) (fun hp10 w3 Hd => ?_) (fun hp10 w3 Hd => ?_)
 have H3 := H2.callN Hd
 refine OE ?_
 refine ⟨fun hne => absurd rfl hne, ?_⟩
 refine ME<|cR e16<|J3 rfl<|J2<|Xm rfl<|Xf fl45_2 rfl<|OV (EN ty36 rfl (vs := [.int .i64 n.b.r, .int .i64 n.b.n]) rfl (H3.cellsR (i := 1) rfl rfl))<|Xc rfl<|cOp e16<|Xf fl57_0 rfl<|OS ty36 H3 0 rfl rfl rfl rfl rfl (by first | decide | (simp; done) | simp [putAt]) rfl<|fun w4 H4=>Xr e16<|run_nil<|fin_end0 rfl ?_
 unfold rz
 rw [if_pos hp10]
 exact H4.pick [0] (by decide)
 have H3 := H2.callN Hd
 refine OE ?_
 refine ⟨fun hne => absurd rfl hne, ?_⟩
 refine ME<|cR e16<|J4 rfl<|J6<|run_nil<|fin_end0 rfl ?_
 unfold rz
 rw [if_neg hp10]
 exact H3.pick [0] (by decide)
set_option maxRecDepth 100000 in
set_option maxHeartbeats 4000000 in
theorem behind_v (A : Option Addr) (k : Nat) (l : List Vt) (n : Int) (ok : Nat → Prop) (w0 : World) (hl : Sl (VtR w0 ok) 4 w0 ok A l) (hn : l.length ≤ 1099511627776) : Does Tryz.prog 89 #[.slice A l.length k, .int .i64 n] w0 (fun r w' => ∃ A' k', r = .slice A' (behind l n).length k' ∧ Sl (VtR w' (up ok w0.heap.size)) 4 w' (up ok w0.heap.size) A' (behind l n) ∧ Hp w0 w' [] []) := by
 refine does_of Tryz.func89 Tryz.ntmps89 rfl<|cR e9 ?_
 have H := Hp.refl w0
 obtain ⟨ps, hp, hr, ha, h2⟩ := hl
 have hlen := h2.len
 have hon := h2.ones fun _ _ h => h.ones
 refine Rq<|ops_box rfl rfl H<|fun w1 gc H1 hgc=>Xa rfl<|Xr e9<|Rq<|Xm rfl<|OQ (EC gf52 rfl) (cloneV A l.length k ps.flatten _ (hr.to0 H1) (ones_flatten hon) (by omega)) ?_
 rintro _ w2 ⟨g, cap, sp, rfl, hgn, hcz, hg0, Hc⟩
 have hgf := row_new (ok := ok) Hc (i := 0) rfl (fun _ h => by cases h)
 have hsz1 := H1.size
 have H2 := H1.call0 Hc
 refine OV (ex_makeFunc rfl rfl) ?_
 have hgcx := H2.at (i := 0) rfl
 refine OQ (EC gf103 rfl) (deleteV g cap l.length ps hlen sp 104 gc (vtLe n) _ (H2.pick [1] (by decide)).here hp hon (by omega) (by omega) hcz (prd_behind h2 hgcx rfl) (row_not H2 (i := 0) (is := [1]) rfl (by decide))) ?_
 rintro _ w3 ⟨sp2, rfl, hl2, Hd⟩
 have H3 := H2.callr [1] rfl Hd
 refine cOp e9<|Xa rfl<|Xr e9<|J5<|FN1 rfl rfl ?_
 have hf := h2.filter (f := fun p => !vtLe n p) (g := fun x => !decide (x.slot ≤ n)) fun p x h => by rw [vtLe_eq h]
 rw [behind_eq] at hf
 rw [hf.len]
 refine ⟨_, cap, rfl, Sl.row H3 (i := 2) rfl (hp.sub fun x hx => (List.mem_filter.1 hx).1) (by decide) (hf.imp fun p x h => h.to H3 up_k0) (fun b hb => ?_), H3.noRows⟩
 rcases hgf b hb with h | h
 exact .inl h
 exact .inr (by omega)
set_option maxRecDepth 100000 in
set_option maxHeartbeats 16000000 in
theorem vote_v (gs : Nat) (s : Sv) (A1 : Option Addr) (k1 : Nat) (A2 : Option Addr) (k2 : Nat) (A3 : Option Addr) (k3 : Nat) (n : Nt) (B1 : Option Addr) (j1 : Nat) (B2 : Option Addr) (j2 : Nat) (okn : Nat → Prop) (w0 : World) (hrow : w0.heap[gs]? = some (.cells [.int .i64 s.p.r, .int .i64 s.p.n, .slice A1 s.votes.length k1, .int .i64 s.index, .slice A2 s.image.length k2, .slice A3 s.entries.length k3].toArray 57 (0, 0))) (ok : Nat → Prop) (hok : ¬ ok gs) (hv1 : Sl (VtR w0 ok) 4 w0 ok A1 s.votes) (hv2 : Bs w0 ok A2 s.image) (hv3 : Sl (EnR w0 ok) 2 w0 ok A3 s.entries) (hokn : ¬ okn gs) (hb : Bs w0 okn B1 n.vote.val) (hrise : Rise (fun x : Vt => cmpI x.slot n.vote.slot) s.votes) (hvl : s.votes.length ≤ 1000) (hi : 0 ≤ s.index ∧ s.index ≤ 1099511627776) (he : s.entries.length ≤ 1099511627776) : Does Tryz.prog 62 #[.pointer (some ⟨gs, 0, none⟩), .agg [.int .i64 n.kind, .int .i64 n.group, .int .i64 n.b.r, .int .i64 n.b.n, .int .i64 n.vote.slot, .int .i64 n.vote.b.r, .int .i64 n.vote.b.n, .slice B1 n.vote.val.length j1, .int .i64 n.entry.slot, .slice B2 n.entry.val.length j2, .int .i64 n.right.g, strV n.right.key, .int .i64 n.right.lease, .int .i64 n.right.net, .int .i64 n.client, .int .i64 n.seq].toArray] w0 (fun _ w' => ∃ cs', Hp w0 w' [gs] [((some gs, 57, cs') : Ent)] ∧ SvR w' (up ok w0.heap.size) cs' (if n.vote.slot ≤ s.last then s else ({ s with votes := putVt s.votes n.vote } : Sv).raise n.vote.b)) := by
 refine does_of Tryz.func62 Tryz.ntmps62 rfl<|cR e53 ?_
 have H := Hp.old hrow
 have hks := up_k (n := w0.heap.size) (ok := ok) (S := [gs]) fun x hx hg => hok (by rw [← List.mem_singleton.1 hg]; exact hx)
 have hkn : ∀ x, okn x → x < w0.heap.size → x ∉ [gs] ∧ okn x := fun x hx _ => ⟨fun hg => hokn (by rw [← List.mem_singleton.1 hg]; exact hx), hx⟩
 obtain ⟨ps, hp, hr, ha, h2⟩ := id hv1
 have hlen := h2.len
 have hon := h2.ones fun _ _ h => h.ones
 refine Rq<|ops_box rfl rfl H<|fun w1 g1 H1 hg1=>Xr e53<|Rq<|Xf fl45_3 rfl<|OV (EN ty39 rfl (vs := [.int .i64 n.vote.slot, .int .i64 n.vote.b.r, .int .i64 n.vote.b.n, .slice B1 n.vote.val.length j1]) rfl (H1.cellsR (i := 1) rfl rfl))<|OA ty39 H1<|fun w2 g2 H2 hg2=>OS ty39 H2 2 rfl rfl rfl rfl rfl (by first | decide | (simp; done) | simp [putAt]) rfl<|fun w3 H3=>Xr e53<|J1<|J1<|run_mixZ 4 [(true, 0), (true, 1), (true, 2), (false, 3), (false, 4)] H3 [0, 1, 2] mixed (by decide) (by kernel_rfl) ?_
 rintro w4 hw4
 have H4 := Hp.drew H3; rw [← hw4] at H4
 refine Zf rfl fl39_0 rfl<|MP rfl<|MV (fun wz hz => EL ty3 rfl (hz.cell (i := 2) rfl rfl))<|Zm rfl rfl<|MO rfl<|OC (EC gf85 rfl) (last_v gs _ _ _ _ s.index A3 s.entries.length k3 _ (H4.at (i := 0) rfl) ⟨by omega, by omega⟩ (by omega))<|fun w5 Hd=>have H5:=H4.callN Hd;OE<|⟨fun hne => H5.pick [0, 1, 2] (by decide), ?_⟩
 refine cZ e53<|MO rfl<|OT (ex_leq rfl rfl) (fun hp14 => ?_) (fun hp14 => ?_)
 refine OE ?_
 refine ⟨fun hne => absurd rfl hne, ?_⟩
 refine ME<|cR e53<|J3 rfl<|J5<|fin_ret0 rfl ?_
 rw [if_pos (by unfold Sv.last; exact hp14)]
 exact ⟨_, H5.pick [0] (by decide), A1, k1, A2, k2, A3, k3, rfl, hv1.toV H5 hks, hv2.to H5 hks, hv3.toE H5 hks⟩
 refine OE ?_
 refine ⟨fun hne => absurd rfl hne, ?_⟩
 refine ME<|cR e53<|J4 rfl<|J6<|Rq<|Xf fl39_2 rfl<|OV (EL ty37 rfl (H5.cell (i := 2) rfl rfl))<|ops_call_own (EC gf51 rfl) (clone_any B1 n.vote.val j1 _ (hb.to H5 hkn).1 (by have := hb.2.2; omega))<|fun w6 gb cb sb hmb hcb hgb Hc=>have H6:=H5.call0 Hc;Xf fl39_2 rfl<|cOp e53<|OW ty37 H6 2 rfl rfl rfl rfl (by first | decide | (simp; done) | simp [putAt]) rfl<|fun w7 H7=>Xr e53<|J1<|run_mixZ 11 [(true, 0), (true, 1), (true, 2), (true, 3), (true, 4), (true, 5), (false, 6), (true, 7), (true, 8), (true, 9), (true, 10), (false, 11)] H7 [0, 1, 2, 3] mixed (by decide) (by kernel_rfl) ?_
 rintro w8 hw8
 have H8 := Hp.drew H7; rw [← hw8] at H8
 refine Zm rfl rfl<|Zc rfl rfl<|Zf rfl fl57_1 rfl<|MP rfl<|MV (fun wz hz => EL ty54 rfl (hz.cell (i := 0) rfl rfl))<|cZ e53<|Zf rfl fl39_0 rfl<|MP rfl<|MV (fun wz hz => EL ty3 rfl (hz.cell (i := 2) rfl rfl))<|MO rfl<|OQ (EC gf86 rfl) (bsearchV A1 k1 ps s.votes.length hlen 87 n.vote.slot (vtCf n.vote.slot) _ hp (by rw [hlen]; exact (hr.move (by decide) ha H8 hks).1) (by omega) (cmp_vote h2 hrise)) ?_
 rintro _ w9 ⟨i, f, rfl, hfd, Hd⟩
 have H9 := H8.callN Hd
 refine OE ?_
 refine ⟨fun hne => H9.pick [0, 1, 2, 3] (by decide), ?_⟩
 refine cZ e53<|Zm rfl rfl<|MP rfl<|MV (fun wz hz => ex_extract rfl rfl)<|MP rfl<|MV (fun wz hz => ex_extract rfl rfl)<|MP rfl<|MV (fun wz hz => ex_assign rfl)<|cZ e53<|MO rfl<|Xa rfl<|OE<|⟨fun hne => absurd rfl hne, ?_⟩
 refine cZ e53<|ME<|cR e53<|Rq<|Xm rfl<|Xc rfl<|Xf fl57_1 rfl<|OV (EL ty54 rfl (H9.cell (i := 0) rfl rfl))<|cOp e53<|OQ (EC gf52 rfl) (cloneV A1 s.votes.length k1 ps.flatten _ (hr.move (by decide) ha H9 hks).1 (ones_flatten hon) (by omega)) ?_
 rintro _ w10 ⟨gv, cv, sv, rfl, hmv, hcv, hgv0, Hc⟩
 have H10 := H9.call0 Hc
 refine Xa rfl<|Xr e53<|J1<|Rq<|Xm rfl<|Xr e53<|run_cond rfl (fun hb34 => ?_) (fun hb34 => ?_)
 obtain ⟨pi, hpi, _⟩ := hfd.yes hb34
 have hil := lt_of_get hpi
 obtain ⟨gw, rfl⟩ := own_some H10 (i := 4) rfl (by rw [List.length_append, hp.len]; omega)
 subst hb34
 refine J2<|Xm rfl<|Xm rfl<|OV (EN ty39 rfl (vs := [.int .i64 n.vote.slot, .int .i64 n.vote.b.r, .int .i64 n.vote.b.n, .slice (hd gb) n.vote.val.length cb]) rfl (H10.cellsR (i := 2) rfl rfl))<|OV (ex_idxN Tryz.underlying54 ty39 rfl rfl rfl (by omega))<|cOp e53<|OS ty39 H10 4 rfl rfl rfl rfl rfl (by rw [List.length_append, hp.len]; show 0 + i * 4 + 4 ≤ _; omega) rfl<|fun w11 H11=>?_
 rw [store_elem (sz := 4) (vs := [.int .i64 n.vote.slot, .int .i64 n.vote.b.r, .int .i64 n.vote.b.n, .slice (hd gb) n.vote.val.length cb]) hp hil rfl] at H11
 replace H11 := H11.pick [0, 1, 2, 3, 4] (by decide)
 refine Xr e53<|Rq<|Xm rfl<|Xm rfl<|Xc rfl<|Xf fl57_1 rfl<|cOp e53<|OW ty54 H11 0 rfl rfl rfl rfl (by simp) rfl<|fun w12 H12=>Xr e53<|J2<|Xm rfl<|Xf fl39_1 rfl<|OV (EN ty36 rfl (vs := [.int .i64 n.vote.b.r, .int .i64 n.vote.b.n]) rfl (H12.cellsR (i := 2) rfl rfl))<|OV (EB ty45 pl45 rfl rfl)<|cOp e53<|OQ (EC gf61 rfl) (promise_v gs s.p _ _ _ _ ⟨0, 0, n.vote.b, ⟨0, ⟨0, 0⟩, []⟩, ⟨0, []⟩, ⟨0, [], 0, 0⟩, 0, 0⟩ none 0 none 0 _ (H12.at (i := 0) rfl)) ?_
 rintro r w13 Hd
 have H13 := (H12.callr [0] rfl Hd).pick [5, 1, 2, 3, 4] (by decide)
 refine Xr e53<|run_nil<|fin_end0 rfl ?_
 rw [if_neg (by unfold Sv.last; exact hp14)]
 have HZ := H13
 have hgb2 := row_new (ok := ok) HZ (i := 3) rfl (fun b hb => by rw [List.mem_singleton.1 hb]; exact fun e => HZ.ne (i := 3) (j := 0) (g := gs) (by rw [e]; rfl) rfl (by decide) rfl)
 have hgv2 := row_new (ok := ok) HZ (i := 4) rfl (fun b hb => by rw [List.mem_singleton.1 hb]; exact fun e => HZ.ne (i := 4) (j := 0) (g := gs) (by rw [e]; rfl) rfl (by decide) rfl)
 have hnew : VtR w13 (up ok w0.heap.size) [.int .i64 n.vote.slot, .int .i64 n.vote.b.r, .int .i64 n.vote.b.n, .slice (hd gb) n.vote.val.length cb] n.vote := ⟨hd gb, cb, rfl, Bs.row HZ (i := 3) rfl hb.2.2 hgb2⟩
 have hold := h2.imp (R' := VtR w13 (up ok w0.heap.size)) fun p x h => h.to HZ hks
 have hput := hfd.put (v := n.vote) h2 (fun p x h => vtCf_eq h) hrise
 rw [← putVt_eq] at hput
 rw [raise_eq, hput]
 rw [if_pos rfl]
 have hset := hold.set i hnew
 refine ⟨_, HZ.pick [0] (by decide), hd (some gw), cv, A2, k2, A3, k3, by rw [List.length_set], ?_, hv2.to HZ hks, hv3.toE HZ hks⟩
 exact Sl.row HZ (i := 4) rfl (hp.set_len rfl) (by decide) hset hgv2
 subst hb34
 refine J2<|Xm rfl<|Xm rfl<|OV (EN ty39 rfl (vs := [.int .i64 n.vote.slot, .int .i64 n.vote.b.r, .int .i64 n.vote.b.n, .slice (hd gb) n.vote.val.length cb]) rfl (H10.cellsR (i := 2) rfl rfl))<|ops_buildSlice Tryz.underlying54 ty39 H10 rfl (by decide) rfl<|fun w11 g11 H11 hg11=>cOp e53<|OQ (EC gf88 rfl) (insertV gv cv i _ s.votes.length ps hlen [.int .i64 n.vote.slot, .int .i64 n.vote.b.r, .int .i64 n.vote.b.n, .slice (hd gb) n.vote.val.length cb] sv _ (H11.pick [4] (by decide)).here hp hon (by omega) hcv hgv0 hfd.le (H11.at (i := 5) rfl) rfl rfl (row_not H11 (i := 5) (is := [4]) rfl (by decide)) (by omega)) ?_
 rintro _ w12 ⟨gw, cw, sw, rfl, hnw, hcw, hgw, Hd⟩
 rw [hlen]
 have H12 := (H11.callr [4] rfl Hd).pick [0, 1, 2, 3, 6] (by decide)
 refine Xa rfl<|Xr e53<|Rq<|Xm rfl<|Xm rfl<|Xc rfl<|Xf fl57_1 rfl<|cOp e53<|OW ty54 H12 0 rfl rfl rfl rfl (by simp) rfl<|fun w13 H13=>Xr e53<|J2<|Xm rfl<|Xf fl39_1 rfl<|OV (EN ty36 rfl (vs := [.int .i64 n.vote.b.r, .int .i64 n.vote.b.n]) rfl (H13.cellsR (i := 2) rfl rfl))<|OV (EB ty45 pl45 rfl rfl)<|cOp e53<|OQ (EC gf61 rfl) (promise_v gs s.p _ _ _ _ ⟨0, 0, n.vote.b, ⟨0, ⟨0, 0⟩, []⟩, ⟨0, []⟩, ⟨0, [], 0, 0⟩, 0, 0⟩ none 0 none 0 _ (H13.at (i := 0) rfl)) ?_
 rintro r w14 Hd
 have H14 := (H13.callr [0] rfl Hd).pick [5, 1, 2, 3, 4] (by decide)
 refine Xr e53<|run_nil<|fin_end0 rfl ?_
 rw [if_neg (by unfold Sv.last; exact hp14)]
 have HZ := H14
 have hgb2 := row_new (ok := ok) HZ (i := 3) rfl (fun b hb => by rw [List.mem_singleton.1 hb]; exact fun e => HZ.ne (i := 3) (j := 0) (g := gs) (by rw [e]; rfl) rfl (by decide) rfl)
 have hgv2 := row_new (ok := ok) HZ (i := 4) rfl (fun b hb => by rw [List.mem_singleton.1 hb]; exact fun e => HZ.ne (i := 4) (j := 0) (g := gs) (by rw [e]; rfl) rfl (by decide) rfl)
 have hnew : VtR w14 (up ok w0.heap.size) [.int .i64 n.vote.slot, .int .i64 n.vote.b.r, .int .i64 n.vote.b.n, .slice (hd gb) n.vote.val.length cb] n.vote := ⟨hd gb, cb, rfl, Bs.row HZ (i := 3) rfl hb.2.2 hgb2⟩
 have hold := h2.imp (R' := VtR w14 (up ok w0.heap.size)) fun p x h => h.to HZ hks
 have hput := hfd.put (v := n.vote) h2 (fun p x h => vtCf_eq h) hrise
 rw [← putVt_eq] at hput
 rw [raise_eq, hput]
 rw [if_neg (by decide)]
 have hle := hfd.le
 have hil3 : (s.votes.take i ++ n.vote :: s.votes.drop i).length = s.votes.length + 1 := by rw [List.length_append, List.length_cons, List.length_take, List.length_drop]; omega
 refine ⟨_, HZ.pick [0] (by decide), hd gw, cw, A2, k2, A3, k3, by rw [hil3], ?_, hv2.to HZ hks, hv3.toE HZ hks⟩
 exact Sl.row HZ (i := 4) rfl ((hp.sub fun x hx => List.mem_of_mem_take hx).app fun x hx => by
   rcases List.mem_cons.1 hx with rfl | hx
   · rfl
   · exact hp x (List.mem_of_mem_drop hx)) (by decide) ((hold.take i).app ⟨hnew, hold.drop i⟩) hgv2
end Go.Proofs.YtbninklfoogmdaaGreat
/- Walks of layer 2, printed by wip/gen/codec.py. -/
namespace Go.Proofs.YtbninklfoogmdaaGreat
open Go Go.RowKit
set_option linter.unusedVariables false
attribute [local irreducible] Still Ops Does Cd
set_option maxRecDepth 100000 in
set_option maxHeartbeats 16000000 in
theorem entry_v (gs : Nat) (s : Sv) (A1 : Option Addr) (k1 : Nat) (A2 : Option Addr) (k2 : Nat) (A3 : Option Addr) (k3 : Nat) (n : Nt) (B1 : Option Addr) (j1 : Nat) (B2 : Option Addr) (j2 : Nat) (okn : Nat → Prop) (w0 : World) (hrow : w0.heap[gs]? = some (.cells [.int .i64 s.p.r, .int .i64 s.p.n, .slice A1 s.votes.length k1, .int .i64 s.index, .slice A2 s.image.length k2, .slice A3 s.entries.length k3].toArray 57 (0, 0))) (ok : Nat → Prop) (hok : ¬ ok gs) (hv1 : Sl (VtR w0 ok) 4 w0 ok A1 s.votes) (hv2 : Bs w0 ok A2 s.image) (hv3 : Sl (EnR w0 ok) 2 w0 ok A3 s.entries) (hokn : ¬ okn gs) (hb : Bs w0 okn B2 n.entry.val) (hvl : s.votes.length ≤ 1000) (hi : 0 ≤ s.index ∧ s.index ≤ 1099511627776) (he : s.entries.length ≤ 1099511627776) : Does Tryz.prog 63 #[.pointer (some ⟨gs, 0, none⟩), .agg [.int .i64 n.kind, .int .i64 n.group, .int .i64 n.b.r, .int .i64 n.b.n, .int .i64 n.vote.slot, .int .i64 n.vote.b.r, .int .i64 n.vote.b.n, .slice B1 n.vote.val.length j1, .int .i64 n.entry.slot, .slice B2 n.entry.val.length j2, .int .i64 n.right.g, strV n.right.key, .int .i64 n.right.lease, .int .i64 n.right.net, .int .i64 n.client, .int .i64 n.seq].toArray] w0 (fun _ w' => ∃ cs', Hp w0 w' [gs] [((some gs, 57, cs') : Ent)] ∧ SvR w' (up ok w0.heap.size) cs' (if n.entry.slot = s.last + 1 then { s with entries := s.entries ++ [n.entry], votes := behind s.votes n.entry.slot } else s)) := by
 refine does_of Tryz.func63 Tryz.ntmps63 rfl<|cR e38 ?_
 have H := Hp.old hrow
 have hks := up_k (n := w0.heap.size) (ok := ok) (S := [gs]) fun x hx hg => hok (by rw [← List.mem_singleton.1 hg]; exact hx)
 have hkn : ∀ x, okn x → x < w0.heap.size → x ∉ [gs] ∧ okn x := fun x hx _ => ⟨fun hg => hokn (by rw [← List.mem_singleton.1 hg]; exact hx), hx⟩
 obtain ⟨pe, hpe, hre, hae, he2⟩ := id hv3
 have hel := he2.len
 have hon := he2.ones fun _ _ h => h.ones
 have hkB : ∀ x, ok x → x < w0.heap.size → x ∉ [gs] ∧ (ok x ∧ x < w0.heap.size) := fun x hx hl => ⟨(hks x hx hl).1, hx, hl⟩
 refine Rq<|ops_box rfl rfl H<|fun w1 g1 H1 hg1=>Xr e38<|Rq<|Xf fl45_4 rfl<|OV (EN ty41 rfl (vs := [.int .i64 n.entry.slot, .slice B2 n.entry.val.length j2]) rfl (H1.cellsR (i := 1) rfl rfl))<|OA ty41 H1<|fun w2 g2 H2 hg2=>OS ty41 H2 2 rfl rfl rfl rfl rfl (by first | decide | (simp; done) | simp [putAt]) rfl<|fun w3 H3=>Xr e38<|J1<|J1<|run_mixZ 5 [(true, 0), (true, 1), (true, 2), (false, 3), (true, 4), (false, 5)] H3 [0, 1, 2] mixed (by decide) (by kernel_rfl) ?_
 rintro w4 hw4
 have H4 := Hp.drew H3; rw [← hw4] at H4
 refine Zf rfl fl41_0 rfl<|MP rfl<|MV (fun wz hz => EL ty3 rfl (hz.cell (i := 2) rfl rfl))<|Zm rfl rfl<|MO rfl<|OC (EC gf85 rfl) (last_v gs _ _ _ _ s.index A3 s.entries.length k3 _ (H4.at (i := 0) rfl) ⟨by omega, by omega⟩ (by omega))<|fun w5 Hd=>have H5:=H4.callN Hd;OE<|⟨fun hne => H5.pick [0, 1, 2] (by decide), ?_⟩
 refine cZ e38<|MP rfl<|MV (fun wz hz => ex_add rfl rfl (IntWalk.i64_in _ (by omega)))<|MO rfl<|OT (ex_neq rfl rfl) (fun hp12 => ?_) (fun hp12 => ?_)
 refine OE ?_
 refine ⟨fun hne => absurd rfl hne, ?_⟩
 refine ME<|cR e38<|J3 rfl<|J5<|fin_ret0 rfl ?_
 rw [if_neg (by unfold Sv.last; exact hp12)]
 exact ⟨_, H5.pick [0] (by decide), A1, k1, A2, k2, A3, k3, rfl, hv1.toV H5 hks, hv2.to H5 hks, hv3.toE H5 hks⟩
 refine OE ?_
 refine ⟨fun hne => absurd rfl hne, ?_⟩
 refine ME<|cR e38<|J4 rfl<|J6<|Rq<|Xf fl41_1 rfl<|OV (EL ty37 rfl (H5.cell (i := 2) rfl rfl))<|ops_call_own (EC gf51 rfl) (clone_any B2 n.entry.val j2 _ (hb.to H5 hkn).1 (by have := hb.2.2; omega))<|fun w6 gb cb sb hmb hcb hgb Hc=>have H6:=H5.call0 Hc;Xf fl41_1 rfl<|cOp e38<|OW ty37 H6 2 rfl rfl rfl rfl (by first | decide | (simp; done) | simp [putAt]) rfl<|fun w7 H7=>Xr e38<|J1<|run_mixT 11 (.p 0 (.p 1 (.p 2 (.p 3 (.p 4 (.p 6 (.two 5 (.o 7 (.o 8 (.p 9 (.p 10 (.o 11 .nil))))) 7 (.o 5 (.o 8 (.p 9 (.p 10 (.o 11 .nil)))))))))))) H7 [0, 1, 2, 3] mixed (by decide) (by kernel_rfl) ?_
 rintro w8 hw8
 have H8 := Hp.drew H7; rw [← hw8] at H8
 refine Tm rfl rfl<|Tm rfl rfl<|TP rfl<|MV (fun wz hz => ex_nilCheck rfl)<|Tf rfl fl57_4 rfl<|cT e38<|TP rfl<|MV (fun wz hz => EL ty55 rfl (hz.cell (i := 0) rfl rfl))<|TP rfl<|MV (fun wz hz => EN ty41 rfl (vs := [.int .i64 n.entry.slot, .slice (hd gb) n.entry.val.length cb]) rfl (hz.cellsR (i := 2) rfl rfl))<|mixt_two ?_ ?_
 · refine TQ rfl<|OQ (EC gf53 rfl) (cloneE A3 s.entries.length k3 pe.flatten _ (hre.move (by decide) hae H8 hks).1 (ones_flatten hon) (by omega)) ?_
   rintro _ w9 ⟨ge, ce, se, rfl, hme, hce, hge0, Hc⟩
   have H9 := H8.call0 Hc
   refine OE ?_
   refine ⟨fun hne => H9.pick [0, 1, 2, 3] (by decide), ?_⟩
   refine cT e38<|TQ rfl<|ops_buildSlice Tryz.underlying55 ty41 H9 rfl (by decide) rfl<|fun w10 g10 H10 hg10=>OE<|⟨fun hne => H10.pick [0, 1, 2, 3] (by decide), ?_⟩
   refine cT e38<|TQ rfl<|ops_append Tryz.underlying55 ty41 (by decide) H10 4 (g := ge) (n := s.entries.length) (xs := pe.flatten) (sp := se) rfl rfl (by rw [hpe.len, hel]) hce hme hge0 rfl (H10.rd (i := 5) (o := some _) (xs := ([.int .i64 n.entry.slot, .slice (hd gb) n.entry.val.length cb] : List Value)) (sp := []) rfl rfl (by decide)) rfl (by omega) (by omega) (by decide)<|fun w11 gw cw sw H11 hcw hmw hgw=>OE<|⟨fun hne => H11.pick [0, 1, 2, 3] (by decide), ?_⟩
   refine cT e38<|TP rfl<|MV (fun wz hz => ex_nilCheck rfl)<|Tf rfl fl57_4 rfl<|TQ rfl<|OW ty55 H11 0 rfl rfl rfl rfl (by first | decide | (simp; done) | simp [putAt]) rfl<|fun w12 H12=>OE<|⟨fun hne => absurd rfl hne, ?_⟩
   refine cT e38<|mixt_nil<|cR e38<|run_mixZ 10 [(true, 0), (true, 1), (true, 2), (true, 3), (true, 4), (true, 5), (true, 6), (false, 7), (true, 8), (true, 9), (false, 10)] H12 [0, 1, 2, 3, 4, 5] mixed (by decide) (by kernel_rfl) ?_
   rintro w13 hw13
   have H13 := Hp.drew H12; rw [← hw13] at H13
   refine Zm rfl rfl<|Zm rfl rfl<|Zc rfl rfl<|Zf rfl fl57_1 rfl<|cZ e38<|MP rfl<|MV (fun wz hz => EL ty54 rfl (hz.cell (i := 0) rfl rfl))<|Zf rfl fl41_0 rfl<|MP rfl<|MV (fun wz hz => EL ty3 rfl (hz.cell (i := 2) rfl rfl))<|MO rfl<|OQ (EC gf89 rfl) (behind_v A1 k1 s.votes n.entry.slot (fun x => ok x ∧ x < w0.heap.size) _ (hv1.toV H13 hkB) (by omega)) ?_
   rintro _ w14 ⟨A9, k9, rfl, hv9, Hd⟩
   have hsz9 := H13.size
   have hlt9 := fun x hx => bl_lt H13 (b := x) hx
   have H14 := H13.callN Hd
   have hpl9 := bl_place H14
   refine OE ?_
   refine ⟨fun hne => H14.pick [0, 1, 2, 3, 4, 5] (by decide), ?_⟩
   refine cZ e38<|Zc rfl rfl<|Zf rfl fl57_1 rfl<|MO rfl ?_
   have HB := H14
   have HL := HB.here
   refine OW ty54 HL 0 rfl rfl rfl rfl (by first | (simp; done) | simp [putAt]) rfl<|fun w15 H15=>have HW:=HB.all H15;?_
   have hv9 := hv9.toV (ok' := up ok w0.heap.size) H15 (fun x hx hl => ?_)
   rotate_left
   rcases hx with hx | hx
   refine ⟨fun hb => ?_, .inl hx.1⟩
   rcases hpl9 x hb with h | h
   exact (hks x hx.1 hx.2).1 h
   have := hx.2; omega
   exact ⟨fun hb => by have := hlt9 x hb; omega, .inr (by omega)⟩
   refine OE ?_
   refine ⟨fun hne => absurd rfl hne, ?_⟩
   refine cZ e38<|ME<|cR e38<|run_nil<|fin_end0 rfl ?_
   rw [if_pos (by unfold Sv.last; omega)]
   have hgb2 := row_new (ok := ok) HW (i := 3) rfl (fun b hb => by rw [List.mem_singleton.1 hb]; exact fun e => HW.ne (i := 3) (j := 0) (g := gs) (by rw [e]; rfl) rfl (by decide) rfl)
   have hgw2 := row_new (ok := ok) HW (i := 4) rfl (fun b hb => by rw [List.mem_singleton.1 hb]; exact fun e => HW.ne (i := 4) (j := 0) (g := gs) (by rw [e]; rfl) rfl (by decide) rfl)
   have hnew : EnR w15 (up ok w0.heap.size) ([.int .i64 n.entry.slot, .slice (hd gb) n.entry.val.length cb] : List Value) n.entry := ⟨hd gb, cb, rfl, Bs.row HW (i := 3) rfl hb.2.2 hgb2⟩
   have hold := he2.imp (R' := EnR w15 (up ok w0.heap.size)) fun p x h => h.to HW hks
   have hfl : pe.flatten ++ ([.int .i64 n.entry.slot, .slice (hd gb) n.entry.val.length cb] : List Value) = (pe ++ [([.int .i64 n.entry.slot, .slice (hd gb) n.entry.val.length cb] : List Value)]).flatten := by rw [List.flatten_append]; simp
   refine ⟨_, HW.pick [0] (by decide), A9, k9, A2, k2, hd gw, cw, by rw [List.length_append]; rfl, hv9, hv2.to HW hks, ?_⟩
   exact Sl.row HW (i := 4) (by rw [← hfl]; rfl) (hpe.app (Pl.one rfl)) (by decide) (hold.app (All2.one hnew)) hgw2
 · refine TQ rfl<|ops_buildSlice Tryz.underlying55 ty41 H8 rfl (by decide) rfl<|fun w9 g9 H9 hg9=>OE<|⟨fun hne => H9.pick [0, 1, 2, 3] (by decide), ?_⟩
   refine cT e38<|TQ rfl<|OQ (EC gf53 rfl) (cloneE A3 s.entries.length k3 pe.flatten _ (hre.move (by decide) hae H9 hks).1 (ones_flatten hon) (by omega)) ?_
   rintro _ w10 ⟨ge, ce, se, rfl, hme, hce, hge0, Hc⟩
   have H10 := (H9.call0 Hc).pick [0, 1, 2, 3, 5, 4] (by decide)
   refine OE ?_
   refine ⟨fun hne => H10.pick [0, 1, 2, 3] (by decide), ?_⟩
   refine cT e38<|TQ rfl<|ops_append Tryz.underlying55 ty41 (by decide) H10 4 (g := ge) (n := s.entries.length) (xs := pe.flatten) (sp := se) rfl rfl (by rw [hpe.len, hel]) hce hme hge0 rfl (H10.rd (i := 5) (o := some _) (xs := ([.int .i64 n.entry.slot, .slice (hd gb) n.entry.val.length cb] : List Value)) (sp := []) rfl rfl (by decide)) rfl (by omega) (by omega) (by decide)<|fun w11 gw cw sw H11 hcw hmw hgw=>OE<|⟨fun hne => H11.pick [0, 1, 2, 3] (by decide), ?_⟩
   refine cT e38<|TP rfl<|MV (fun wz hz => ex_nilCheck rfl)<|Tf rfl fl57_4 rfl<|TQ rfl<|OW ty55 H11 0 rfl rfl rfl rfl (by first | decide | (simp; done) | simp [putAt]) rfl<|fun w12 H12=>OE<|⟨fun hne => absurd rfl hne, ?_⟩
   refine cT e38<|mixt_nil<|cR e38<|run_mixZ 10 [(true, 0), (true, 1), (true, 2), (true, 3), (true, 4), (true, 5), (true, 6), (false, 7), (true, 8), (true, 9), (false, 10)] H12 [0, 1, 2, 3, 4, 5] mixed (by decide) (by kernel_rfl) ?_
   rintro w13 hw13
   have H13 := Hp.drew H12; rw [← hw13] at H13
   refine Zm rfl rfl<|Zm rfl rfl<|Zc rfl rfl<|Zf rfl fl57_1 rfl<|cZ e38<|MP rfl<|MV (fun wz hz => EL ty54 rfl (hz.cell (i := 0) rfl rfl))<|Zf rfl fl41_0 rfl<|MP rfl<|MV (fun wz hz => EL ty3 rfl (hz.cell (i := 2) rfl rfl))<|MO rfl<|OQ (EC gf89 rfl) (behind_v A1 k1 s.votes n.entry.slot (fun x => ok x ∧ x < w0.heap.size) _ (hv1.toV H13 hkB) (by omega)) ?_
   rintro _ w14 ⟨A9, k9, rfl, hv9, Hd⟩
   have hsz9 := H13.size
   have hlt9 := fun x hx => bl_lt H13 (b := x) hx
   have H14 := H13.callN Hd
   have hpl9 := bl_place H14
   refine OE ?_
   refine ⟨fun hne => H14.pick [0, 1, 2, 3, 4, 5] (by decide), ?_⟩
   refine cZ e38<|Zc rfl rfl<|Zf rfl fl57_1 rfl<|MO rfl ?_
   have HB := H14
   have HL := HB.here
   refine OW ty54 HL 0 rfl rfl rfl rfl (by first | (simp; done) | simp [putAt]) rfl<|fun w15 H15=>have HW:=HB.all H15;?_
   have hv9 := hv9.toV (ok' := up ok w0.heap.size) H15 (fun x hx hl => ?_)
   rotate_left
   rcases hx with hx | hx
   refine ⟨fun hb => ?_, .inl hx.1⟩
   rcases hpl9 x hb with h | h
   exact (hks x hx.1 hx.2).1 h
   have := hx.2; omega
   exact ⟨fun hb => by have := hlt9 x hb; omega, .inr (by omega)⟩
   refine OE ?_
   refine ⟨fun hne => absurd rfl hne, ?_⟩
   refine cZ e38<|ME<|cR e38<|run_nil<|fin_end0 rfl ?_
   rw [if_pos (by unfold Sv.last; omega)]
   have hgb2 := row_new (ok := ok) HW (i := 3) rfl (fun b hb => by rw [List.mem_singleton.1 hb]; exact fun e => HW.ne (i := 3) (j := 0) (g := gs) (by rw [e]; rfl) rfl (by decide) rfl)
   have hgw2 := row_new (ok := ok) HW (i := 4) rfl (fun b hb => by rw [List.mem_singleton.1 hb]; exact fun e => HW.ne (i := 4) (j := 0) (g := gs) (by rw [e]; rfl) rfl (by decide) rfl)
   have hnew : EnR w15 (up ok w0.heap.size) ([.int .i64 n.entry.slot, .slice (hd gb) n.entry.val.length cb] : List Value) n.entry := ⟨hd gb, cb, rfl, Bs.row HW (i := 3) rfl hb.2.2 hgb2⟩
   have hold := he2.imp (R' := EnR w15 (up ok w0.heap.size)) fun p x h => h.to HW hks
   have hfl : pe.flatten ++ ([.int .i64 n.entry.slot, .slice (hd gb) n.entry.val.length cb] : List Value) = (pe ++ [([.int .i64 n.entry.slot, .slice (hd gb) n.entry.val.length cb] : List Value)]).flatten := by rw [List.flatten_append]; simp
   refine ⟨_, HW.pick [0] (by decide), A9, k9, A2, k2, hd gw, cw, by rw [List.length_append]; rfl, hv9, hv2.to HW hks, ?_⟩
   exact Sl.row HW (i := 4) (by rw [← hfl]; rfl) (hpe.app (Pl.one rfl)) (by decide) (hold.app (All2.one hnew)) hgw2
set_option maxRecDepth 100000 in
set_option maxHeartbeats 16000000 in
theorem image_v (gs : Nat) (s : Sv) (A1 : Option Addr) (k1 : Nat) (A2 : Option Addr) (k2 : Nat) (A3 : Option Addr) (k3 : Nat) (n : Nt) (B1 : Option Addr) (j1 : Nat) (B2 : Option Addr) (j2 : Nat) (okn : Nat → Prop) (w0 : World) (hrow : w0.heap[gs]? = some (.cells [.int .i64 s.p.r, .int .i64 s.p.n, .slice A1 s.votes.length k1, .int .i64 s.index, .slice A2 s.image.length k2, .slice A3 s.entries.length k3].toArray 57 (0, 0))) (ok : Nat → Prop) (hok : ¬ ok gs) (hv1 : Sl (VtR w0 ok) 4 w0 ok A1 s.votes) (hv2 : Bs w0 ok A2 s.image) (hv3 : Sl (EnR w0 ok) 2 w0 ok A3 s.entries) (hokn : ¬ okn gs) (hb : Bs w0 okn B2 n.entry.val) (hvl : s.votes.length ≤ 1000) (hes : ∀ x ∈ s.entries, x.slot ≤ 1099511627776) (hi : 0 ≤ s.index ∧ s.index ≤ 1099511627776) (he : s.entries.length ≤ 1099511627776) : Does Tryz.prog 64 #[.pointer (some ⟨gs, 0, none⟩), .agg [.int .i64 n.kind, .int .i64 n.group, .int .i64 n.b.r, .int .i64 n.b.n, .int .i64 n.vote.slot, .int .i64 n.vote.b.r, .int .i64 n.vote.b.n, .slice B1 n.vote.val.length j1, .int .i64 n.entry.slot, .slice B2 n.entry.val.length j2, .int .i64 n.right.g, strV n.right.key, .int .i64 n.right.lease, .int .i64 n.right.net, .int .i64 n.client, .int .i64 n.seq].toArray] w0 (fun _ w' => ∃ cs', Hp w0 w' [gs] [((some gs, 57, cs') : Ent)] ∧ SvR w' (up ok w0.heap.size) cs' (if n.entry.slot ≤ s.index then s else { s with index := n.entry.slot, image := n.entry.val, entries := imgEn s.entries n.entry.slot, votes := behind s.votes n.entry.slot })) := by
 refine does_of Tryz.func64 Tryz.ntmps64 rfl<|cR e67 ?_
 have H := Hp.old hrow
 have hks := up_k (n := w0.heap.size) (ok := ok) (S := [gs]) fun x hx hg => hok (by rw [← List.mem_singleton.1 hg]; exact hx)
 have hkn : ∀ x, okn x → x < w0.heap.size → x ∉ [gs] ∧ okn x := fun x hx _ => ⟨fun hg => hokn (by rw [← List.mem_singleton.1 hg]; exact hx), hx⟩
 obtain ⟨pe, hpe, hre, hae, he2⟩ := id hv3
 have hel := he2.len
 have hon := he2.ones fun _ _ h => h.ones
 have hkB : ∀ x, ok x → x < w0.heap.size → x ∉ [gs] ∧ (ok x ∧ x < w0.heap.size) := fun x hx hl => ⟨(hks x hx hl).1, hx, hl⟩
 refine Rq<|ops_box rfl rfl H<|fun w1 g1 H1 hg1=>Xr e67<|Rq<|Xf fl45_4 rfl<|OV (EN ty41 rfl (vs := [.int .i64 n.entry.slot, .slice B2 n.entry.val.length j2]) rfl (H1.cellsR (i := 1) rfl rfl))<|OA ty41 H1<|fun w2 g2 H2 hg2=>OS ty41 H2 2 rfl rfl rfl rfl rfl (by first | decide | (simp; done) | simp [putAt]) rfl<|fun w3 H3=>Xr e67<|J1<|J1<|run_mixZ 6 [(true, 0), (true, 1), (true, 2), (true, 3), (true, 4), (true, 5), (false, 6)] H3 [0, 1, 2] mixed (by decide) (by kernel_rfl) ?_
 rintro w4 hw4
 have H4 := Hp.drew H3; rw [← hw4] at H4
 refine Zf rfl fl41_0 rfl<|MP rfl<|MV (fun wz hz => EL ty3 rfl (hz.cell (i := 2) rfl rfl))<|Zm rfl rfl<|Zc rfl rfl<|cZ e67<|Zf rfl fl57_2 rfl<|MP rfl<|MV (fun wz hz => EL ty3 rfl (hz.cell (i := 0) rfl rfl))<|MO rfl<|OT (ex_leq rfl rfl) (fun hp13 => ?_) (fun hp13 => ?_)
 refine OE ?_
 refine ⟨fun hne => absurd rfl hne, ?_⟩
 refine ME<|cR e67<|J3 rfl<|J5<|fin_ret0 rfl ?_
 rw [if_pos hp13]
 exact ⟨_, H4.pick [0] (by decide), A1, k1, A2, k2, A3, k3, rfl, hv1.toV H4 hks, hv2.to H4 hks, hv3.toE H4 hks⟩
 refine OE ?_
 refine ⟨fun hne => absurd rfl hne, ?_⟩
 refine ME<|cR e67<|J4 rfl<|J6<|Rq<|Xm rfl<|Xm rfl<|Xc rfl<|Xf fl57_4 rfl<|cOp e67<|OV (EL ty55 rfl (H4.cell (i := 0) rfl rfl))<|OQ (EC gf53 rfl) (cloneE A3 s.entries.length k3 pe.flatten _ (hre.move (by decide) hae H4 hks).1 (ones_flatten hon) (by omega)) ?_
 rintro _ w5 ⟨ge, ce, se, rfl, hme, hce, hge0, Hc⟩
 have H5 := H4.call0 Hc
 refine OV (ex_makeFunc rfl rfl)<|OQ (EC gf90 rfl) (deleteE ge ce s.entries.length pe hel se 91 _ (vtLe n.entry.slot) _ (H5.pick [3] (by decide)).here hpe hon (by omega) (by omega) hce (prd_image he2 (H5.at (i := 2) rfl) rfl) (row_not H5 (i := 2) (is := [3]) rfl (by decide))) ?_
 rintro _ w6 ⟨se2, rfl, hl2, Hd⟩
 have H6 := (H5.callr [3] rfl Hd).pick [0, 1, 2, 4] (by decide)
 have HI := H6
 have hef := he2.filter (f := fun p => !vtLe n.entry.slot p) (g := fun x => decide (n.entry.slot < x.slot)) (fun p x h => by
   rw [enLe_eq h]
   by_cases hx : x.slot ≤ n.entry.slot
   · rw [decide_eq_true hx, decide_eq_false (by omega)]; rfl
   · rw [decide_eq_false hx, decide_eq_true (by omega)]; rfl)
 have hefl := hef.len
 have hpf : Pl 2 (pe.filter fun p => !vtLe n.entry.slot p) := hpe.sub fun x hx => (List.mem_filter.1 hx).1
 refine cOp e67<|Xc rfl<|Xf fl57_4 rfl<|OW ty55 H6 0 rfl rfl rfl rfl (by first | (simp; done) | simp [putAt]) rfl<|fun w7 H7=>Xr e67<|J1<|J1<|run_mixZ 18 [(true, 0), (true, 1), (true, 2), (true, 3), (true, 4), (true, 5), (true, 6), (true, 7), (true, 8), (true, 9), (true, 10), (true, 11), (true, 12), (true, 13), (true, 14), (true, 15), (true, 16), (true, 17), (false, 18)] H7 [0, 1, 2, 3] mixed (by decide) (by kernel_rfl) ?_
 rintro w8 hw8
 have H8 := Hp.drew H7; rw [← hw8] at H8
 refine Zm rfl rfl<|Zc rfl rfl<|Zf rfl fl57_4 rfl<|MP rfl<|MV (fun wz hz => EL ty55 rfl (hz.cell (i := 0) rfl rfl))<|cZ e67<|MP rfl<|MV (fun wz hz => ES Tryz.underlying55 rfl)<|MP rfl<|mix1_test (fun wz hz => ex_gtr rfl rfl) (fun hp29 => ?_) (fun hp29 => ?_)
 obtain ⟨p0, hp0⟩ := get_of (l := (pe.filter fun p => !vtLe n.entry.slot p)) (j := 0) (by omega)
 obtain ⟨e0, he0, hR0⟩ := hef.getL hp0
 have hmem0 := (List.mem_filter.1 (List.mem_of_getElem? he0))
 have hsl0 := hes e0 hmem0.1
 have hgt0 : n.entry.slot < e0.slot := by simpa using hmem0.2
 obtain ⟨Aq, kq, hpq, _⟩ := hR0
 subst hpq
 have hc0 : ((pe.filter fun p => !vtLe n.entry.slot p).flatten ++ se2)[0 + 0 * 2 + 0]? = some (.int .i64 e0.slot) := by
   have h1 := hpf.get hp0 (j := 0) (u := .int .i64 e0.slot) rfl
   rw [List.getElem?_append_left (lt_of_get h1)]; exact h1
 obtain ⟨gx, rfl⟩ := own_some HI (i := 3) rfl (lt_of_get hc0)
 refine Zm rfl rfl<|MP rfl<|MY rfl<|MV (fun wz hz => ex_move rfl)<|MP rfl<|MY rfl<|MV (fun wz hz => ex_nilCheck rfl)<|cZ e67<|MP rfl<|MY rfl<|MV (fun wz hz => EF fl57_4 rfl)<|MP rfl<|MY rfl<|MV (fun wz hz => EL ty55 rfl (hz.cell (i := 0) rfl rfl))<|MP rfl<|MY rfl<|MV (fun wz hz => ex_idxN Tryz.underlying55 ty41 rfl rfl (i := 0) rfl (by omega))<|MP rfl<|MY rfl<|MV (fun wz hz => EF fl41_0 rfl)<|cZ e67<|MP rfl<|MY rfl<|MV (fun wz hz => EL ty3 rfl (hz.cell (i := 3) rfl hc0))<|MP rfl<|MY rfl<|MV (fun wz hz => EF fl41_0 rfl)<|MP rfl<|MY rfl<|MV (fun wz hz => EL ty3 rfl (hz.cell (i := 2) rfl rfl))<|MP rfl<|MY rfl<|MV (fun wz hz => ex_add rfl rfl (IntWalk.i64_in _ (by omega)))<|cZ e67<|MP rfl<|MY rfl<|mix1_test (fun wz hz => ex_neq rfl rfl) (fun hp41 => ?_) (fun hp41 => ?_)
 · refine MO rfl<|Xt rfl rfl<|OE<|⟨fun hne => absurd rfl hne, ?_⟩
   refine cZ e67<|ME<|cR e67<|J3 rfl<|J2<|Xm rfl<|Xc rfl<|Xf fl57_4 rfl<|OW ty55 H8 0 rfl rfl rfl rfl (by first | (simp; done) | simp [putAt]) rfl<|fun w9 H9=>Xr e67<|J1<|run_mixZ 12 [(true, 0), (true, 1), (true, 2), (true, 3), (true, 4), (true, 5), (false, 6), (true, 7), (true, 8), (false, 9), (true, 10), (true, 11), (false, 12)] H9 [1, 2, 3] mixed (by decide) (by kernel_rfl) ?_
   rintro w10 hw10
   have H10 := Hp.drew H9; rw [← hw10] at H10
   refine Zm rfl rfl<|Zm rfl rfl<|Zf rfl fl41_0 rfl<|MP rfl<|MV (fun wz hz => EL ty3 rfl (hz.cell (i := 1) rfl rfl))<|cZ e67<|Zf rfl fl41_1 rfl<|MP rfl<|MV (fun wz hz => EL ty37 rfl (hz.cell (i := 1) rfl rfl))<|MO rfl<|ops_call_own (EC gf51 rfl) (clone_any B2 n.entry.val j2 _ (hb.to H10 hkn).1 (by have := hb.2.2; omega))<|fun w11 gb cb sb hmb hcb hgb Hc=>have H11:=H10.call0 Hc;OE<|⟨fun hne => H11.pick [1, 2, 3] (by decide), ?_⟩
   refine cZ e67<|Zc rfl rfl<|Zf rfl fl57_2 rfl<|MO rfl<|OW ty3 H11 0 rfl rfl rfl rfl (by first | decide | (simp; done) | simp [putAt]) rfl<|fun w12 H12=>OE<|⟨fun hne => H12.pick [1, 2, 3] (by decide), ?_⟩
   refine cZ e67<|Zc rfl rfl<|Zf rfl fl57_3 rfl<|MO rfl<|OW ty37 H12 0 rfl rfl rfl rfl (by first | decide | (simp; done) | simp [putAt]) rfl<|fun w13 H13=>OE<|⟨fun hne => absurd rfl hne, ?_⟩
   refine cZ e67<|ME<|cR e67<|run_mixZ 10 [(true, 0), (true, 1), (true, 2), (true, 3), (true, 4), (true, 5), (true, 6), (false, 7), (true, 8), (true, 9), (false, 10)] H13 [0, 1, 2, 3, 4] mixed (by decide) (by kernel_rfl) ?_
   rintro w14 hw14
   have H14 := Hp.drew H13; rw [← hw14] at H14
   refine Zm rfl rfl<|Zm rfl rfl<|Zc rfl rfl<|Zf rfl fl57_1 rfl<|cZ e67<|MP rfl<|MV (fun wz hz => EL ty54 rfl (hz.cell (i := 0) rfl rfl))<|Zf rfl fl41_0 rfl<|MP rfl<|MV (fun wz hz => EL ty3 rfl (hz.cell (i := 2) rfl rfl))<|MO rfl<|OQ (EC gf89 rfl) (behind_v A1 k1 s.votes n.entry.slot (fun x => ok x ∧ x < w0.heap.size) _ (hv1.toV H14 hkB) (by omega)) ?_
   rintro _ w15 ⟨A9, k9, rfl, hv9, Hd⟩
   have hsz9 := H14.size
   have hlt9 := fun x hx => bl_lt H14 (b := x) hx
   have H15 := H14.callN Hd
   have hpl9 := bl_place H15
   refine OE ?_
   refine ⟨fun hne => H15.pick [0, 1, 2, 3, 4] (by decide), ?_⟩
   refine cZ e67<|Zc rfl rfl<|Zf rfl fl57_1 rfl<|MO rfl ?_
   have HB := H15
   have HL := HB.here
   refine OW ty54 HL 0 rfl rfl rfl rfl (by first | (simp; done) | simp [putAt]) rfl<|fun w16 H16=>have HW:=HB.all H16;?_
   have hv9 := hv9.toV (ok' := up ok w0.heap.size) H16 (fun x hx hl => ?_)
   rotate_left
   rcases hx with hx | hx
   refine ⟨fun hb => ?_, .inl hx.1⟩
   rcases hpl9 x hb with h | h
   exact (hks x hx.1 hx.2).1 h
   have := hx.2; omega
   exact ⟨fun hb => by have := hlt9 x hb; omega, .inr (by omega)⟩
   refine OE ?_
   refine ⟨fun hne => absurd rfl hne, ?_⟩
   refine cZ e67<|ME<|cR e67<|run_nil<|fin_end0 rfl ?_
   rw [if_neg hp13]
   have hgb2 := row_new (ok := ok) HW (i := 4) rfl (fun b hb => by rw [List.mem_singleton.1 hb]; exact fun e => HW.ne (i := 4) (j := 0) (g := gs) (by rw [e]; rfl) rfl (by decide) rfl)
   have hge2 := row_new (ok := ok) HW (i := 3) rfl (fun b hb => by rw [List.mem_singleton.1 hb]; exact fun e => HW.ne (i := 3) (j := 0) (g := gs) (by rw [e]; rfl) rfl (by decide) rfl)
   have hold := hef.imp (R' := EnR w16 (up ok w0.heap.size)) fun p x h => h.to HW hks
   have h0 : imgEn s.entries n.entry.slot = [] := by
     unfold imgEn
     cases hq : (s.entries.filter fun x => decide (n.entry.slot < x.slot)) with
     | nil => rfl
     | cons a r =>
       rw [hq] at he0
       cases he0
       exact if_neg hp41
   rw [h0]
   refine ⟨_, HW.pick [0] (by decide), A9, k9, hd gb, cb, none, 0, rfl, hv9, Bs.row HW (i := 4) rfl hb.2.2 hgb2, Sl.none _ _ _ _⟩
 · refine MO rfl<|Xt rfl rfl<|OE<|⟨fun hne => absurd rfl hne, ?_⟩
   refine cZ e67<|ME<|cR e67<|J4 rfl<|J6<|J1<|run_mixZ 12 [(true, 0), (true, 1), (true, 2), (true, 3), (true, 4), (true, 5), (false, 6), (true, 7), (true, 8), (false, 9), (true, 10), (true, 11), (false, 12)] H8 [1, 2, 3] mixed (by decide) (by kernel_rfl) ?_
   rintro w9 hw9
   have H9 := Hp.drew H8; rw [← hw9] at H9
   refine Zm rfl rfl<|Zm rfl rfl<|Zf rfl fl41_0 rfl<|MP rfl<|MV (fun wz hz => EL ty3 rfl (hz.cell (i := 1) rfl rfl))<|cZ e67<|Zf rfl fl41_1 rfl<|MP rfl<|MV (fun wz hz => EL ty37 rfl (hz.cell (i := 1) rfl rfl))<|MO rfl<|ops_call_own (EC gf51 rfl) (clone_any B2 n.entry.val j2 _ (hb.to H9 hkn).1 (by have := hb.2.2; omega))<|fun w10 gb cb sb hmb hcb hgb Hc=>have H10:=H9.call0 Hc;OE<|⟨fun hne => H10.pick [1, 2, 3] (by decide), ?_⟩
   refine cZ e67<|Zc rfl rfl<|Zf rfl fl57_2 rfl<|MO rfl<|OW ty3 H10 0 rfl rfl rfl rfl (by first | decide | (simp; done) | simp [putAt]) rfl<|fun w11 H11=>OE<|⟨fun hne => H11.pick [1, 2, 3] (by decide), ?_⟩
   refine cZ e67<|Zc rfl rfl<|Zf rfl fl57_3 rfl<|MO rfl<|OW ty37 H11 0 rfl rfl rfl rfl (by first | decide | (simp; done) | simp [putAt]) rfl<|fun w12 H12=>OE<|⟨fun hne => absurd rfl hne, ?_⟩
   refine cZ e67<|ME<|cR e67<|run_mixZ 10 [(true, 0), (true, 1), (true, 2), (true, 3), (true, 4), (true, 5), (true, 6), (false, 7), (true, 8), (true, 9), (false, 10)] H12 [0, 1, 2, 3, 4] mixed (by decide) (by kernel_rfl) ?_
   rintro w13 hw13
   have H13 := Hp.drew H12; rw [← hw13] at H13
   refine Zm rfl rfl<|Zm rfl rfl<|Zc rfl rfl<|Zf rfl fl57_1 rfl<|cZ e67<|MP rfl<|MV (fun wz hz => EL ty54 rfl (hz.cell (i := 0) rfl rfl))<|Zf rfl fl41_0 rfl<|MP rfl<|MV (fun wz hz => EL ty3 rfl (hz.cell (i := 2) rfl rfl))<|MO rfl<|OQ (EC gf89 rfl) (behind_v A1 k1 s.votes n.entry.slot (fun x => ok x ∧ x < w0.heap.size) _ (hv1.toV H13 hkB) (by omega)) ?_
   rintro _ w14 ⟨A9, k9, rfl, hv9, Hd⟩
   have hsz9 := H13.size
   have hlt9 := fun x hx => bl_lt H13 (b := x) hx
   have H14 := H13.callN Hd
   have hpl9 := bl_place H14
   refine OE ?_
   refine ⟨fun hne => H14.pick [0, 1, 2, 3, 4] (by decide), ?_⟩
   refine cZ e67<|Zc rfl rfl<|Zf rfl fl57_1 rfl<|MO rfl ?_
   have HB := H14
   have HL := HB.here
   refine OW ty54 HL 0 rfl rfl rfl rfl (by first | (simp; done) | simp [putAt]) rfl<|fun w15 H15=>have HW:=HB.all H15;?_
   have hv9 := hv9.toV (ok' := up ok w0.heap.size) H15 (fun x hx hl => ?_)
   rotate_left
   rcases hx with hx | hx
   refine ⟨fun hb => ?_, .inl hx.1⟩
   rcases hpl9 x hb with h | h
   exact (hks x hx.1 hx.2).1 h
   have := hx.2; omega
   exact ⟨fun hb => by have := hlt9 x hb; omega, .inr (by omega)⟩
   refine OE ?_
   refine ⟨fun hne => absurd rfl hne, ?_⟩
   refine cZ e67<|ME<|cR e67<|run_nil<|fin_end0 rfl ?_
   rw [if_neg hp13]
   have hgb2 := row_new (ok := ok) HW (i := 4) rfl (fun b hb => by rw [List.mem_singleton.1 hb]; exact fun e => HW.ne (i := 4) (j := 0) (g := gs) (by rw [e]; rfl) rfl (by decide) rfl)
   have hge2 := row_new (ok := ok) HW (i := 3) rfl (fun b hb => by rw [List.mem_singleton.1 hb]; exact fun e => HW.ne (i := 3) (j := 0) (g := gs) (by rw [e]; rfl) rfl (by decide) rfl)
   have hold := hef.imp (R' := EnR w15 (up ok w0.heap.size)) fun p x h => h.to HW hks
   have h0 : imgEn s.entries n.entry.slot = (s.entries.filter fun x => decide (n.entry.slot < x.slot)) := by
     unfold imgEn
     cases hq : (s.entries.filter fun x => decide (n.entry.slot < x.slot)) with
     | nil => simp [hq] at he0
     | cons a r =>
       rw [hq] at he0
       cases he0
       exact if_pos (by omega)
   rw [h0]
   refine ⟨_, HW.pick [0] (by decide), A9, k9, hd gb, cb, hd (some gx), ce, by rw [← hefl]; rfl, hv9, Bs.row HW (i := 4) rfl hb.2.2 hgb2, Sl.row HW (i := 3) rfl hpf (by decide) hold hge2⟩
 · refine Zm rfl rfl<|MP rfl<|MZ rfl<|cZ e67<|MP rfl<|MZ rfl<|MP rfl<|MZ rfl<|cZ e67<|MP rfl<|MZ rfl<|MP rfl<|MZ rfl<|cZ e67<|MP rfl<|MZ rfl<|MP rfl<|MZ rfl<|cZ e67<|MP rfl<|MZ rfl<|MP rfl<|MZ rfl<|cZ e67<|MP rfl<|MZ rfl<|MP rfl<|MZ rfl<|cZ e67<|MO rfl<|Xu rfl rfl<|OE<|⟨fun hne => absurd rfl hne, ?_⟩
   refine cZ e67<|ME<|cR e67<|J4 rfl<|J6<|J1<|run_mixZ 12 [(true, 0), (true, 1), (true, 2), (true, 3), (true, 4), (true, 5), (false, 6), (true, 7), (true, 8), (false, 9), (true, 10), (true, 11), (false, 12)] H8 [1, 2, 3] mixed (by decide) (by kernel_rfl) ?_
   rintro w9 hw9
   have H9 := Hp.drew H8; rw [← hw9] at H9
   refine Zm rfl rfl<|Zm rfl rfl<|Zf rfl fl41_0 rfl<|MP rfl<|MV (fun wz hz => EL ty3 rfl (hz.cell (i := 1) rfl rfl))<|cZ e67<|Zf rfl fl41_1 rfl<|MP rfl<|MV (fun wz hz => EL ty37 rfl (hz.cell (i := 1) rfl rfl))<|MO rfl<|ops_call_own (EC gf51 rfl) (clone_any B2 n.entry.val j2 _ (hb.to H9 hkn).1 (by have := hb.2.2; omega))<|fun w10 gb cb sb hmb hcb hgb Hc=>have H10:=H9.call0 Hc;OE<|⟨fun hne => H10.pick [1, 2, 3] (by decide), ?_⟩
   refine cZ e67<|Zc rfl rfl<|Zf rfl fl57_2 rfl<|MO rfl<|OW ty3 H10 0 rfl rfl rfl rfl (by first | decide | (simp; done) | simp [putAt]) rfl<|fun w11 H11=>OE<|⟨fun hne => H11.pick [1, 2, 3] (by decide), ?_⟩
   refine cZ e67<|Zc rfl rfl<|Zf rfl fl57_3 rfl<|MO rfl<|OW ty37 H11 0 rfl rfl rfl rfl (by first | decide | (simp; done) | simp [putAt]) rfl<|fun w12 H12=>OE<|⟨fun hne => absurd rfl hne, ?_⟩
   refine cZ e67<|ME<|cR e67<|run_mixZ 10 [(true, 0), (true, 1), (true, 2), (true, 3), (true, 4), (true, 5), (true, 6), (false, 7), (true, 8), (true, 9), (false, 10)] H12 [0, 1, 2, 3, 4] mixed (by decide) (by kernel_rfl) ?_
   rintro w13 hw13
   have H13 := Hp.drew H12; rw [← hw13] at H13
   refine Zm rfl rfl<|Zm rfl rfl<|Zc rfl rfl<|Zf rfl fl57_1 rfl<|cZ e67<|MP rfl<|MV (fun wz hz => EL ty54 rfl (hz.cell (i := 0) rfl rfl))<|Zf rfl fl41_0 rfl<|MP rfl<|MV (fun wz hz => EL ty3 rfl (hz.cell (i := 2) rfl rfl))<|MO rfl<|OQ (EC gf89 rfl) (behind_v A1 k1 s.votes n.entry.slot (fun x => ok x ∧ x < w0.heap.size) _ (hv1.toV H13 hkB) (by omega)) ?_
   rintro _ w14 ⟨A9, k9, rfl, hv9, Hd⟩
   have hsz9 := H13.size
   have hlt9 := fun x hx => bl_lt H13 (b := x) hx
   have H14 := H13.callN Hd
   have hpl9 := bl_place H14
   refine OE ?_
   refine ⟨fun hne => H14.pick [0, 1, 2, 3, 4] (by decide), ?_⟩
   refine cZ e67<|Zc rfl rfl<|Zf rfl fl57_1 rfl<|MO rfl ?_
   have HB := H14
   have HL := HB.here
   refine OW ty54 HL 0 rfl rfl rfl rfl (by first | (simp; done) | simp [putAt]) rfl<|fun w15 H15=>have HW:=HB.all H15;?_
   have hv9 := hv9.toV (ok' := up ok w0.heap.size) H15 (fun x hx hl => ?_)
   rotate_left
   rcases hx with hx | hx
   refine ⟨fun hb => ?_, .inl hx.1⟩
   rcases hpl9 x hb with h | h
   exact (hks x hx.1 hx.2).1 h
   have := hx.2; omega
   exact ⟨fun hb => by have := hlt9 x hb; omega, .inr (by omega)⟩
   refine OE ?_
   refine ⟨fun hne => absurd rfl hne, ?_⟩
   refine cZ e67<|ME<|cR e67<|run_nil<|fin_end0 rfl ?_
   rw [if_neg hp13]
   have hgb2 := row_new (ok := ok) HW (i := 4) rfl (fun b hb => by rw [List.mem_singleton.1 hb]; exact fun e => HW.ne (i := 4) (j := 0) (g := gs) (by rw [e]; rfl) rfl (by decide) rfl)
   have hge2 := row_new (ok := ok) HW (i := 3) rfl (fun b hb => by rw [List.mem_singleton.1 hb]; exact fun e => HW.ne (i := 3) (j := 0) (g := gs) (by rw [e]; rfl) rfl (by decide) rfl)
   have hold := hef.imp (R' := EnR w15 (up ok w0.heap.size)) fun p x h => h.to HW hks
   have h0 : imgEn s.entries n.entry.slot = (s.entries.filter fun x => decide (n.entry.slot < x.slot)) := by
     unfold imgEn
     have : (s.entries.filter fun x => decide (n.entry.slot < x.slot)) = [] := List.eq_nil_of_length_eq_zero (by omega)
     rw [this]
   rw [h0]
   refine ⟨_, HW.pick [0] (by decide), A9, k9, hd gb, cb, hd ge, ce, by rw [← hefl]; rfl, hv9, Bs.row HW (i := 4) rfl hb.2.2 hgb2, Sl.row HW (i := 3) rfl hpf (by decide) hold hge2⟩
end Go.Proofs.YtbninklfoogmdaaGreat
