/- Walks of layer 2, printed by wip/gen/codec.py. -/
import Derived.Test.YtbninklfoogmdaaGreatNf
import Derived.Test.YtbninklfoogmdaaGreatVu
import Derived.Test.YtbninklfoogmdaaGreatVaA
namespace Go.Proofs.YtbninklfoogmdaaGreat
open Go Go.RowKit
set_option linter.unusedVariables false
attribute [local irreducible] Still Ops Does Cd
set_option maxRecDepth 100000 in
set_option maxHeartbeats 16000000 in
theorem load_r (p : Bal) (first : Int) (A : Option Addr) (k : Nat) (l : List Vt) (ok : Nat → Prop) (w0 : World) (hl : Sl (VtR w0 ok) 4 w0 ok A l) (hn : l.length ≤ 1000000000000) (hf : -4611686018427387904 ≤ first ∧ first ≤ 4611686018427387904) : Does Tryz.prog 47 #[.agg [.int .i64 p.r, .int .i64 p.n].toArray, .int .i64 first, .slice A l.length k] w0 (fun r w' => ∃ a : Option Addr, r = .pointer a ∧ (ldOk p first l = true → ∃ x, a = some x) ∧ (ldOk p first l = false → a = none) ∧ Hp w0 w' [] []) := by
 refine does_of Tryz.func47 Tryz.ntmps47 rfl<|cR e75 ?_
 have H := Hp.refl w0
 obtain ⟨ps, hp, hr, ha, h2⟩ := hl
 have hlen := h2.len
 refine Rq<|ops_box rfl rfl H<|fun w1 gp H1 _=>Xa rfl<|Xr e75<|J1<|Rq<|Xm rfl<|OT (ex_lss rfl rfl) (fun hp11 => ?_) (fun hp11 => ?_)
 refine Xm rfl<|cOp e75<|OZ rfl<|OZ rfl<|Xt rfl rfl<|Xm rfl<|cOp e75<|OZ rfl<|OZ rfl<|cOp e75<|OZ rfl<|OZ rfl<|cOp e75<|OZ rfl<|OZ rfl<|cOp e75<|OZ rfl<|OZ rfl<|Xt rfl rfl<|Xr e75<|J3 rfl<|Rq<|Xa rfl<|Xr e75<|J5<|FN1 rfl rfl ?_
 have hno : ldOk p first l = false := ld_f1 (by omega)
 exact ⟨_, rfl, (fun h => by rw [hno] at h; cases h), fun _ => rfl, H1.noRows⟩
 refine Xm rfl<|cOp e75<|OY rfl<|Xm rfl<|OY rfl<|OT (ex_gtr rfl rfl) (fun hp14 => ?_) (fun hp14 => ?_)
 refine Xu rfl rfl<|Xm rfl<|cOp e75<|OZ rfl<|OZ rfl<|cOp e75<|OZ rfl<|OZ rfl<|cOp e75<|OZ rfl<|OZ rfl<|cOp e75<|OZ rfl<|OZ rfl<|Xt rfl rfl<|Xr e75<|J3 rfl<|Rq<|Xa rfl<|Xr e75<|J5<|FN1 rfl rfl ?_
 have hno : ldOk p first l = false := ld_f1 (by omega)
 exact ⟨_, rfl, (fun h => by rw [hno] at h; cases h), fun _ => rfl, H1.noRows⟩
 refine Xu rfl rfl<|Xm rfl<|cOp e75<|OY rfl<|OV (EN ty36 rfl (vs := [.int .i64 p.r, .int .i64 p.n]) rfl (H1.cellsR (i := 0) rfl rfl))<|OY rfl<|OV (EB ty36 pl36 rfl rfl)<|cOp e75<|OY rfl<|OT (ex_neq_bal rfl rfl) (fun hp19 => ?_) (fun hp19 => ?_)
 refine OY rfl<|Xm rfl<|OY rfl<|OV (EN ty36 rfl (vs := [.int .i64 p.r, .int .i64 p.n]) rfl (H1.cellsR (i := 0) rfl rfl))<|cOp e75<|OY rfl<|OX (EC gf70 rfl) (turn10 _ _) (fun hp22 w2 Hd => ?_) (fun hp22 w2 Hd => ?_)
 have H2 := H1.callN Hd
 refine OY rfl<|Xn rfl<|OY rfl<|Xt rfl rfl<|Xu rfl rfl<|Xr e75<|J4 rfl<|J6<|Rq<|Xm rfl<|OV (ex_sub rfl rfl (IntWalk.i64_in _ (by omega)))<|Xa rfl<|Xr e75<|J1<|Rq<|Xa rfl<|Xr e75<|J7<|run_loop (fun nQ lQ w => ∃ (i : Nat) (y m : Int), l.length - i = nQ ∧ Fits [none, some (.int .i64 first), some (.slice A l.length k), some (.pointer (some ⟨gp, 0, none⟩)), none, none, none, some (.int .i64 m), some (.int .i64 y), none, none, none, none, none, none, none, none, none, none, none, none, none, none, none, none, none, none, none, none, none, none, none, none, none, none, none, none, none, none, none, none, none, none, none, none, none, none, none, none, none, none, none, none, none, none, none, none, none, none, none, none, none, none, none, none, none, none, none, none, none, none, none, none, none, none] lQ ∧ y = (i : Int) ∧ i ≤ l.length ∧ vtsOk p first first l = vtsOk p first (m + 1) (l.drop i) ∧ first ≤ m + 1 ∧ m ≤ first + 16 ∧ Hp w0 w [] [((some gp, 36, [.int .i64 p.r, .int .i64 p.n]) : Ent)]) (l.length) ?_ ?_
 exact ⟨0, _, first - 1, rfl, (fn (fs (fs (fs (fn (fn (fn (fs (fs (fn (fn (fn (fn (fn (fn (fn (fn (fn (fn (fn (fn (fn (fn (fn (fn (fn (fn (fn (fn (fn (fn (fn (fn (fn (fn (fn (fn (fn (fn (fn (fn (fn (fn (fn (fn (fn (fn (fn (fn (fn (fn (fn (fn (fn (fn (fn (fn (fn (fn (fn (fn (fn (fn (fn (fn (fn (fn (fn (fn (fn (fn (fn (fn (fn (fn f0))))))))))))))))))))))))))))))))))))))))))))))))))))))))))))))))))))))))))), rfl, Nat.zero_le _, by rw [Int.sub_add_cancel]; rfl, by omega, by omega, H2⟩
 rintro nQ lQ w3 ⟨i, y, m, rfl, hfit, rfl, hi, hinv, hfm, hfm2, H3⟩
 obtain ⟨j, rfl⟩ := hfit.open
 refine cR e75 ?_
 clear hfit
 have HB := H3
 replace H3 := HB.here
 refine J1<|Rq<|Xm rfl<|Xm rfl<|OV (ES Tryz.underlying54 rfl)<|OT (ex_lss rfl rfl) (fun hp31 => ?_) (fun hp31 => ?_)
 have hil : i < l.length := by omega
 obtain ⟨x, hx⟩ := get_of hil
 obtain ⟨p1, hp1, hR⟩ := h2.get hx
 obtain ⟨Ax, kx, rfl, hbx⟩ := hR
 obtain ⟨a1, ha1⟩ := hr.some_ (by omega)
 subst ha1
 refine Xr e75<|J3 rfl<|J6<|J1<|J7<|Rq<|Xm rfl<|Xm rfl<|OV (EI Tryz.underlying54 ty39 rfl rfl rfl hil rfl)<|OV (EN ty39 rfl (vs := [.int .i64 x.slot, .int .i64 x.b.r, .int .i64 x.b.n, .slice Ax x.val.length kx]) rfl ((hr.to0 (HB.all H3)).elem hp hp1))<|cOp e75<|OA ty39 H3<|fun w4 g4 H4 hg4=>OS ty39 H4 1 rfl rfl rfl rfl rfl (by first | decide | (simp; done) | simp [putAt]) rfl<|fun w5 H5=>Xr e75<|J1<|Rq<|Xf fl39_0 rfl<|OV (EL ty3 rfl (H5.cell (i := 1) rfl rfl))<|Xm rfl<|OT (ex_leq rfl rfl) (fun hp41 => ?_) (fun hp41 => ?_)
 refine Xm rfl<|cOp e75<|OZ rfl<|OZ rfl<|cOp e75<|OZ rfl<|OZ rfl<|cOp e75<|OZ rfl<|Xt rfl rfl<|Xm rfl<|cOp e75<|OZ rfl<|OZ rfl<|cOp e75<|OZ rfl<|OZ rfl<|Xt rfl rfl<|Xm rfl<|cOp e75<|OZ rfl<|OZ rfl<|cOp e75<|OZ rfl<|OZ rfl<|Xt rfl rfl<|Xm rfl<|cOp e75<|OZ rfl<|OZ rfl<|cOp e75<|OZ rfl<|OZ rfl<|Xt rfl rfl<|Xr e75<|J3 rfl<|Rq<|Xa rfl ?_
 refine Xr e75<|J5<|BR<|rnd_ret<|BR<|FN1 rfl rfl ?_
 have hno : ldOk p first l = false := by rw [ld_v (by omega) (by omega), hinv]; exact vts_no hx fun hh => by omega
 exact ⟨_, rfl, (fun h => by rw [hno] at h; cases h), fun _ => rfl, (HB.all H5).noRows⟩
 refine Xm rfl<|cOp e75<|OY rfl<|Xf fl39_0 rfl<|OY rfl<|OV (EL ty3 rfl (H5.cell (i := 1) rfl rfl))<|cOp e75<|OY rfl<|Xm rfl<|OY rfl<|OV (ex_add rfl rfl (IntWalk.i64_in _ (by omega)))<|cOp e75<|OY rfl<|OT (ex_geq rfl rfl) (fun hp47 => ?_) (fun hp47 => ?_)
 refine Xu rfl rfl<|Xm rfl<|cOp e75<|OZ rfl<|OZ rfl<|cOp e75<|OZ rfl<|OZ rfl<|Xt rfl rfl<|Xm rfl<|cOp e75<|OZ rfl<|OZ rfl<|cOp e75<|OZ rfl<|OZ rfl<|Xt rfl rfl<|Xm rfl<|cOp e75<|OZ rfl<|OZ rfl<|cOp e75<|OZ rfl<|OZ rfl<|Xt rfl rfl<|Xr e75<|J3 rfl<|Rq<|Xa rfl<|Xr e75<|J5<|BR<|rnd_ret<|BR<|FN1 rfl rfl ?_
 have hno : ldOk p first l = false := by rw [ld_v (by omega) (by omega), hinv]; exact vts_no hx fun hh => by omega
 exact ⟨_, rfl, (fun h => by rw [hno] at h; cases h), fun _ => rfl, (HB.all H5).noRows⟩
 refine Xu rfl rfl<|Xm rfl<|cOp e75<|OY rfl<|Xf fl39_1 rfl<|OY rfl<|OV (EN ty36 rfl (vs := [.int .i64 x.b.r, .int .i64 x.b.n]) rfl (H5.cellsR (i := 1) rfl rfl))<|cOp e75<|OY rfl<|OX (EC gf70 rfl) (turn10 _ _) (fun hp52 w6 Hd => ?_) (fun hp52 w6 Hd => ?_)
 have H6 := H5.callN Hd
 refine OY rfl<|Xn rfl<|Xu rfl rfl<|Xm rfl<|cOp e75<|OY rfl<|OV (EN ty36 rfl (vs := [.int .i64 p.r, .int .i64 p.n]) rfl (H6.cellsR (i := 0) rfl rfl))<|OY rfl<|Xf fl39_1 rfl<|cOp e75<|OY rfl<|OV (EN ty36 rfl (vs := [.int .i64 x.b.r, .int .i64 x.b.n]) rfl (H6.cellsR (i := 1) rfl rfl))<|OY rfl<|OX (EC gf68 rfl) (less9 _ _ _) (fun hp59 w7 Hd => ?_) (fun hp59 w7 Hd => ?_)
 have H7 := H6.callN Hd
 refine Xu rfl rfl<|Xm rfl<|cOp e75<|OZ rfl<|OZ rfl<|cOp e75<|OZ rfl<|OZ rfl<|Xt rfl rfl<|Xr e75<|J3 rfl<|Rq<|Xa rfl<|Xr e75<|J5<|BR<|rnd_ret<|BR<|FN1 rfl rfl ?_
 have hno : ldOk p first l = false := by rw [ld_v (by omega) (by omega), hinv]; exact vts_no hx fun hh => hh.2.2.2.2.1 hp59
 exact ⟨_, rfl, (fun h => by rw [hno] at h; cases h), fun _ => rfl, (HB.all H7).noRows⟩
 have H7 := H6.callN Hd
 refine Xu rfl rfl<|Xm rfl<|cOp e75<|OY rfl<|Xf fl39_2 rfl<|OY rfl<|OV (EL ty37 rfl (H7.cell (i := 1) rfl rfl))<|cOp e75<|OY rfl<|OV (ES Tryz.underlying37 rfl)<|OY rfl<|OT (ex_gtr rfl rfl) (fun hp65 => ?_) (fun hp65 => ?_)
 refine Xu rfl rfl<|Xr e75<|J3 rfl<|Rq<|Xa rfl<|Xr e75<|J5<|BR<|rnd_ret<|BR<|FN1 rfl rfl ?_
 have hno : ldOk p first l = false := by rw [ld_v (by omega) (by omega), hinv]; exact vts_no hx fun hh => by omega
 exact ⟨_, rfl, (fun h => by rw [hno] at h; cases h), fun _ => rfl, (HB.all H7).noRows⟩
 refine Xu rfl rfl<|Xr e75<|J4 rfl<|J6<|J2<|Xf fl39_0 rfl<|OV (EL ty3 rfl (H7.cell (i := 1) rfl rfl))<|Xa rfl<|Xr e75<|run_nil (blk_normal ?_)
 refine J2<|Xm rfl<|OV (ex_add rfl rfl (IntWalk.i64_in _ (by omega)))<|Xa rfl<|Xr e75<|run_nil (rnd_normal ?_)
 have hgo := vts_go (p := p) (first := first) (m := m + 1) hx ⟨by omega, by omega, hp52.1, hp52.2, hp59, by omega⟩
 exact ⟨l.length - (i + 1), by omega, i + 1, _, x.slot, rfl, (fn (fs (fs (fs (fn (fn (fn (fs (fs (fn (fn (fn (fn (fn (fn (fn (fn (fn (fn (fn (fn (fn (fn (fn (fn (fn (fn (fn (fn (fn (fn (fn (fn (fn (fn (fn (fn (fn (fn (fn (fn (fn (fn (fn (fn (fn (fn (fn (fn (fn (fn (fn (fn (fn (fn (fn (fn (fn (fn (fn (fn (fn (fn (fn (fn (fn (fn (fn (fn (fn (fn (fn (fn (fn (fn f0))))))))))))))))))))))))))))))))))))))))))))))))))))))))))))))))))))))))))), by omega, by omega, by rw [hinv, hgo], by omega, by omega, (HB.all H7).pick [0] (by decide)⟩
 have H6 := H5.callN Hd
 refine OY rfl<|Xn rfl<|Xu rfl rfl<|Xm rfl<|cOp e75<|OZ rfl<|OZ rfl<|cOp e75<|OZ rfl<|OZ rfl<|Xt rfl rfl<|Xm rfl<|cOp e75<|OZ rfl<|OZ rfl<|cOp e75<|OZ rfl<|OZ rfl<|Xt rfl rfl<|Xr e75<|J3 rfl<|Rq<|Xa rfl<|Xr e75<|J5<|BR<|rnd_ret<|BR<|FN1 rfl rfl ?_
 have hno : ldOk p first l = false := by rw [ld_v (by omega) (by omega), hinv]; exact vts_no hx fun hh => hp52 ⟨hh.2.2.1, hh.2.2.2.1⟩
 exact ⟨_, rfl, (fun h => by rw [hno] at h; cases h), fun _ => rfl, (HB.all H6).noRows⟩
 obtain rfl : i = l.length := by omega
 refine Xr e75<|J4 rfl<|J8<|rnd_exit<|blk_exit<|J1<|run_mixZ 6 [(true, 0), (true, 1), (true, 2), (false, 3), (true, 4), (false, 5), (false, 6)] H3 [0] mixed (by decide) (by kernel_rfl) ?_
 rintro w4 hw4
 have H4 := Hp.drew H3; rw [← hw4] at H4
 refine MP rfl<|MV (fun wz hz => EN ty36 rfl (vs := [.int .i64 p.r, .int .i64 p.n]) rfl (hz.cellsR (i := 0) rfl rfl))<|Zm rfl rfl<|Zm rfl rfl<|MO rfl ?_
 have hon := h2.ones fun _ _ h => h.ones
 refine ops_append Tryz.underlying54 ty39 (by decide) (H4.nil 39) 1 (g := none) (n := 0) (cap := 0) (xs := []) (sp := []) rfl rfl rfl (by decide) (by decide) (fun _ => rfl) rfl (hr.to0 (HB.all H4)) (ones_flatten hon) (by omega) (by omega) (by decide)<|fun w5 gv cv sv H5 _ _ _=>OE<|⟨fun hne => H5.pick [0] (by decide), ?_⟩
 refine cZ e75<|MP rfl<|MV (fun wz hz => EB ty111 pl111 rfl rfl)<|MO rfl<|ops_box rfl rfl H5<|fun w6 g6 H6 hg6=>OE<|⟨fun hne => H6.pick [0] (by decide), ?_⟩
 refine cZ e75<|MO rfl<|Xa rfl<|OE<|⟨fun hne => absurd rfl hne, ?_⟩
 refine cZ e75<|ME<|cR e75<|J5<|FN1 rfl rfl<|⟨_, rfl, fun _ => ⟨_, rfl⟩, (fun h => by rw [ld_v (by omega) (by omega), hinv, vts_end] at h; cases h), (HB.all H6).noRows⟩
 have H2 := H1.callN Hd
 refine OY rfl<|Xn rfl<|OY rfl<|Xt rfl rfl<|Xu rfl rfl<|Xr e75<|J3 rfl<|Rq<|Xa rfl<|Xr e75<|J5<|FN1 rfl rfl ?_
 have hno : ldOk p first l = false := ld_f2 (by omega)
 exact ⟨_, rfl, (fun h => by rw [hno] at h; cases h), fun _ => rfl, H2.noRows⟩
 refine OY rfl<|Xm rfl<|OZ rfl<|cOp e75<|OZ rfl<|OZ rfl<|cOp e75<|OY rfl<|Xu rfl rfl<|Xu rfl rfl<|Xr e75<|J4 rfl<|J6<|Rq<|Xm rfl<|OV (ex_sub rfl rfl (IntWalk.i64_in _ (by omega)))<|Xa rfl<|Xr e75<|J1<|Rq<|Xa rfl<|Xr e75<|J7<|run_loop (fun nQ lQ w => ∃ (i : Nat) (y m : Int), l.length - i = nQ ∧ Fits [none, some (.int .i64 first), some (.slice A l.length k), some (.pointer (some ⟨gp, 0, none⟩)), none, none, none, some (.int .i64 m), some (.int .i64 y), none, none, none, none, none, none, none, none, none, none, none, none, none, none, none, none, none, none, none, none, none, none, none, none, none, none, none, none, none, none, none, none, none, none, none, none, none, none, none, none, none, none, none, none, none, none, none, none, none, none, none, none, none, none, none, none, none, none, none, none, none, none, none, none, none, none] lQ ∧ y = (i : Int) ∧ i ≤ l.length ∧ vtsOk p first first l = vtsOk p first (m + 1) (l.drop i) ∧ first ≤ m + 1 ∧ m ≤ first + 16 ∧ Hp w0 w [] [((some gp, 36, [.int .i64 p.r, .int .i64 p.n]) : Ent)]) (l.length) ?_ ?_
 exact ⟨0, _, first - 1, rfl, (fn (fs (fs (fs (fn (fn (fn (fs (fs (fn (fn (fn (fn (fn (fn (fn (fn (fn (fn (fn (fn (fn (fn (fn (fn (fn (fn (fn (fn (fn (fn (fn (fn (fn (fn (fn (fn (fn (fn (fn (fn (fn (fn (fn (fn (fn (fn (fn (fn (fn (fn (fn (fn (fn (fn (fn (fn (fn (fn (fn (fn (fn (fn (fn (fn (fn (fn (fn (fn (fn (fn (fn (fn (fn (fn f0))))))))))))))))))))))))))))))))))))))))))))))))))))))))))))))))))))))))))), rfl, Nat.zero_le _, by rw [Int.sub_add_cancel]; rfl, by omega, by omega, H1⟩
 rintro nQ lQ w2 ⟨i, y, m, rfl, hfit, rfl, hi, hinv, hfm, hfm2, H2⟩
 obtain ⟨j, rfl⟩ := hfit.open
 refine cR e75 ?_
 clear hfit
 have HB := H2
 replace H2 := HB.here
 refine J1<|Rq<|Xm rfl<|Xm rfl<|OV (ES Tryz.underlying54 rfl)<|OT (ex_lss rfl rfl) (fun hp31 => ?_) (fun hp31 => ?_)
 have hil : i < l.length := by omega
 obtain ⟨x, hx⟩ := get_of hil
 obtain ⟨p1, hp1, hR⟩ := h2.get hx
 obtain ⟨Ax, kx, rfl, hbx⟩ := hR
 obtain ⟨a1, ha1⟩ := hr.some_ (by omega)
 subst ha1
 refine Xr e75<|J3 rfl<|J6<|J1<|J7<|Rq<|Xm rfl<|Xm rfl<|OV (EI Tryz.underlying54 ty39 rfl rfl rfl hil rfl)<|OV (EN ty39 rfl (vs := [.int .i64 x.slot, .int .i64 x.b.r, .int .i64 x.b.n, .slice Ax x.val.length kx]) rfl ((hr.to0 (HB.all H2)).elem hp hp1))<|cOp e75<|OA ty39 H2<|fun w3 g3 H3 hg3=>OS ty39 H3 1 rfl rfl rfl rfl rfl (by first | decide | (simp; done) | simp [putAt]) rfl<|fun w4 H4=>Xr e75<|J1<|Rq<|Xf fl39_0 rfl<|OV (EL ty3 rfl (H4.cell (i := 1) rfl rfl))<|Xm rfl<|OT (ex_leq rfl rfl) (fun hp41 => ?_) (fun hp41 => ?_)
 refine Xm rfl<|cOp e75<|OZ rfl<|OZ rfl<|cOp e75<|OZ rfl<|OZ rfl<|cOp e75<|OZ rfl<|Xt rfl rfl<|Xm rfl<|cOp e75<|OZ rfl<|OZ rfl<|cOp e75<|OZ rfl<|OZ rfl<|Xt rfl rfl<|Xm rfl<|cOp e75<|OZ rfl<|OZ rfl<|cOp e75<|OZ rfl<|OZ rfl<|Xt rfl rfl<|Xm rfl<|cOp e75<|OZ rfl<|OZ rfl<|cOp e75<|OZ rfl<|OZ rfl<|Xt rfl rfl<|Xr e75<|J3 rfl<|Rq<|Xa rfl ?_
 refine Xr e75<|J5<|BR<|rnd_ret<|BR<|FN1 rfl rfl ?_
 have hno : ldOk p first l = false := by rw [ld_v (by omega) (by omega), hinv]; exact vts_no hx fun hh => by omega
 exact ⟨_, rfl, (fun h => by rw [hno] at h; cases h), fun _ => rfl, (HB.all H4).noRows⟩
 refine Xm rfl<|cOp e75<|OY rfl<|Xf fl39_0 rfl<|OY rfl<|OV (EL ty3 rfl (H4.cell (i := 1) rfl rfl))<|cOp e75<|OY rfl<|Xm rfl<|OY rfl<|OV (ex_add rfl rfl (IntWalk.i64_in _ (by omega)))<|cOp e75<|OY rfl<|OT (ex_geq rfl rfl) (fun hp47 => ?_) (fun hp47 => ?_)
 refine Xu rfl rfl<|Xm rfl<|cOp e75<|OZ rfl<|OZ rfl<|cOp e75<|OZ rfl<|OZ rfl<|Xt rfl rfl<|Xm rfl<|cOp e75<|OZ rfl<|OZ rfl<|cOp e75<|OZ rfl<|OZ rfl<|Xt rfl rfl<|Xm rfl<|cOp e75<|OZ rfl<|OZ rfl<|cOp e75<|OZ rfl<|OZ rfl<|Xt rfl rfl<|Xr e75<|J3 rfl<|Rq<|Xa rfl<|Xr e75<|J5<|BR<|rnd_ret<|BR<|FN1 rfl rfl ?_
 have hno : ldOk p first l = false := by rw [ld_v (by omega) (by omega), hinv]; exact vts_no hx fun hh => by omega
 exact ⟨_, rfl, (fun h => by rw [hno] at h; cases h), fun _ => rfl, (HB.all H4).noRows⟩
 refine Xu rfl rfl<|Xm rfl<|cOp e75<|OY rfl<|Xf fl39_1 rfl<|OY rfl<|OV (EN ty36 rfl (vs := [.int .i64 x.b.r, .int .i64 x.b.n]) rfl (H4.cellsR (i := 1) rfl rfl))<|cOp e75<|OY rfl<|OX (EC gf70 rfl) (turn10 _ _) (fun hp52 w5 Hd => ?_) (fun hp52 w5 Hd => ?_)
 have H5 := H4.callN Hd
 refine OY rfl<|Xn rfl<|Xu rfl rfl<|Xm rfl<|cOp e75<|OY rfl<|OV (EN ty36 rfl (vs := [.int .i64 p.r, .int .i64 p.n]) rfl (H5.cellsR (i := 0) rfl rfl))<|OY rfl<|Xf fl39_1 rfl<|cOp e75<|OY rfl<|OV (EN ty36 rfl (vs := [.int .i64 x.b.r, .int .i64 x.b.n]) rfl (H5.cellsR (i := 1) rfl rfl))<|OY rfl<|OX (EC gf68 rfl) (less9 _ _ _) (fun hp59 w6 Hd => ?_) (fun hp59 w6 Hd => ?_)
 have H6 := H5.callN Hd
 refine Xu rfl rfl<|Xm rfl<|cOp e75<|OZ rfl<|OZ rfl<|cOp e75<|OZ rfl<|OZ rfl<|Xt rfl rfl<|Xr e75<|J3 rfl<|Rq<|Xa rfl<|Xr e75<|J5<|BR<|rnd_ret<|BR<|FN1 rfl rfl ?_
 have hno : ldOk p first l = false := by rw [ld_v (by omega) (by omega), hinv]; exact vts_no hx fun hh => hh.2.2.2.2.1 hp59
 exact ⟨_, rfl, (fun h => by rw [hno] at h; cases h), fun _ => rfl, (HB.all H6).noRows⟩
 have H6 := H5.callN Hd
 refine Xu rfl rfl<|Xm rfl<|cOp e75<|OY rfl<|Xf fl39_2 rfl<|OY rfl<|OV (EL ty37 rfl (H6.cell (i := 1) rfl rfl))<|cOp e75<|OY rfl<|OV (ES Tryz.underlying37 rfl)<|OY rfl<|OT (ex_gtr rfl rfl) (fun hp65 => ?_) (fun hp65 => ?_)
 refine Xu rfl rfl<|Xr e75<|J3 rfl<|Rq<|Xa rfl<|Xr e75<|J5<|BR<|rnd_ret<|BR<|FN1 rfl rfl ?_
 have hno : ldOk p first l = false := by rw [ld_v (by omega) (by omega), hinv]; exact vts_no hx fun hh => by omega
 exact ⟨_, rfl, (fun h => by rw [hno] at h; cases h), fun _ => rfl, (HB.all H6).noRows⟩
 refine Xu rfl rfl<|Xr e75<|J4 rfl<|J6<|J2<|Xf fl39_0 rfl<|OV (EL ty3 rfl (H6.cell (i := 1) rfl rfl))<|Xa rfl<|Xr e75<|run_nil (blk_normal ?_)
 refine J2<|Xm rfl<|OV (ex_add rfl rfl (IntWalk.i64_in _ (by omega)))<|Xa rfl<|Xr e75<|run_nil (rnd_normal ?_)
 have hgo := vts_go (p := p) (first := first) (m := m + 1) hx ⟨by omega, by omega, hp52.1, hp52.2, hp59, by omega⟩
 exact ⟨l.length - (i + 1), by omega, i + 1, _, x.slot, rfl, (fn (fs (fs (fs (fn (fn (fn (fs (fs (fn (fn (fn (fn (fn (fn (fn (fn (fn (fn (fn (fn (fn (fn (fn (fn (fn (fn (fn (fn (fn (fn (fn (fn (fn (fn (fn (fn (fn (fn (fn (fn (fn (fn (fn (fn (fn (fn (fn (fn (fn (fn (fn (fn (fn (fn (fn (fn (fn (fn (fn (fn (fn (fn (fn (fn (fn (fn (fn (fn (fn (fn (fn (fn (fn (fn f0))))))))))))))))))))))))))))))))))))))))))))))))))))))))))))))))))))))))))), by omega, by omega, by rw [hinv, hgo], by omega, by omega, (HB.all H6).pick [0] (by decide)⟩
 have H5 := H4.callN Hd
 refine OY rfl<|Xn rfl<|Xu rfl rfl<|Xm rfl<|cOp e75<|OZ rfl<|OZ rfl<|cOp e75<|OZ rfl<|OZ rfl<|Xt rfl rfl<|Xm rfl<|cOp e75<|OZ rfl<|OZ rfl<|cOp e75<|OZ rfl<|OZ rfl<|Xt rfl rfl<|Xr e75<|J3 rfl<|Rq<|Xa rfl<|Xr e75<|J5<|BR<|rnd_ret<|BR<|FN1 rfl rfl ?_
 have hno : ldOk p first l = false := by rw [ld_v (by omega) (by omega), hinv]; exact vts_no hx fun hh => hp52 ⟨hh.2.2.1, hh.2.2.2.1⟩
 exact ⟨_, rfl, (fun h => by rw [hno] at h; cases h), fun _ => rfl, (HB.all H5).noRows⟩
 obtain rfl : i = l.length := by omega
 refine Xr e75<|J4 rfl<|J8<|rnd_exit<|blk_exit<|J1<|run_mixZ 6 [(true, 0), (true, 1), (true, 2), (false, 3), (true, 4), (false, 5), (false, 6)] H2 [0] mixed (by decide) (by kernel_rfl) ?_
 rintro w3 hw3
 have H3 := Hp.drew H2; rw [← hw3] at H3
 refine MP rfl<|MV (fun wz hz => EN ty36 rfl (vs := [.int .i64 p.r, .int .i64 p.n]) rfl (hz.cellsR (i := 0) rfl rfl))<|Zm rfl rfl<|Zm rfl rfl<|MO rfl ?_
 have hon := h2.ones fun _ _ h => h.ones
 refine ops_append Tryz.underlying54 ty39 (by decide) (H3.nil 39) 1 (g := none) (n := 0) (cap := 0) (xs := []) (sp := []) rfl rfl rfl (by decide) (by decide) (fun _ => rfl) rfl (hr.to0 (HB.all H3)) (ones_flatten hon) (by omega) (by omega) (by decide)<|fun w4 gv cv sv H4 _ _ _=>OE<|⟨fun hne => H4.pick [0] (by decide), ?_⟩
 refine cZ e75<|MP rfl<|MV (fun wz hz => EB ty111 pl111 rfl rfl)<|MO rfl<|ops_box rfl rfl H4<|fun w5 g5 H5 hg5=>OE<|⟨fun hne => H5.pick [0] (by decide), ?_⟩
 refine cZ e75<|MO rfl<|Xa rfl<|OE<|⟨fun hne => absurd rfl hne, ?_⟩
 refine cZ e75<|ME<|cR e75<|J5<|FN1 rfl rfl<|⟨_, rfl, fun _ => ⟨_, rfl⟩, (fun h => by rw [ld_v (by omega) (by omega), hinv, vts_end] at h; cases h), (HB.all H5).noRows⟩
set_option maxRecDepth 100000 in
set_option maxHeartbeats 16000000 in
theorem check_r (s : Sv) (A1 : Option Addr) (k1 : Nat) (A2 : Option Addr) (k2 : Nat) (A3 : Option Addr) (k3 : Nat) (ok : Nat → Prop) (w0 : World) (hv1 : Sl (VtR w0 ok) 4 w0 ok A1 s.votes) (hv2 : Bs w0 ok A2 s.image) (hv3 : Sl (EnR w0 ok) 2 w0 ok A3 s.entries) (hvl : s.votes.length ≤ 1000000000000) (hel2 : s.entries.length ≤ 2000000000000) : Does Tryz.prog 26 #[.int .i64 1, .int .i64 5, .agg [.int .i64 s.p.r, .int .i64 s.p.n, .slice A1 s.votes.length k1, .int .i64 s.index, .slice A2 s.image.length k2, .slice A3 s.entries.length k3].toArray] w0 (fun r w' => ∃ e : Int, r = .int .i64 e ∧ Ans (chk s) e ∧ Hp w0 w' [] []) := by
 refine does_of Tryz.func26 Tryz.ntmps26 rfl<|cR e109 ?_
 have H := Hp.refl w0
 obtain ⟨pe, hpe, hre, hae, he2⟩ := id hv3
 have hel := he2.len
 refine Rq<|ops_box rfl rfl H<|fun w1 gs H1 _=>Xa rfl<|Xr e109<|J1<|Rq<|Xm rfl<|OT1 (ex_neq rfl rfl) (by decide)<|Xm rfl<|cOp e109<|OY rfl<|Xm rfl<|OY rfl<|OT1 (ex_neq rfl rfl) (by decide)<|Xt rfl rfl<|Xm rfl<|cOp e109<|OY rfl<|Xm rfl<|OY rfl<|OT0 (ex_neq rfl rfl) (by decide)<|Xt rfl rfl<|Xm rfl<|cOp e109<|OY rfl<|Xm rfl<|OY rfl<|OT0 (ex_lss rfl rfl) (by decide)<|Xu rfl rfl<|Xm rfl<|cOp e109<|OY rfl<|Xm rfl<|OY rfl<|Xm rfl<|cOp e109 ?_
 refine OY rfl<|OT0 (ex_gtr rfl rfl) (by decide)<|Xu rfl rfl<|Xr e109<|J4 rfl<|J6<|J1<|Rq<|Xf fl57_0 rfl<|OV (EN ty36 rfl (vs := [.int .i64 s.p.r, .int .i64 s.p.n]) rfl (H1.cellsR (i := 0) rfl rfl))<|OV (EB ty36 pl36 rfl rfl)<|OT (ex_neq_bal rfl rfl) (fun hp31 => ?_) (fun hp31 => ?_)
 refine Xm rfl<|cOp e109<|OY rfl<|Xf fl57_0 rfl<|OY rfl<|OV (EN ty36 rfl (vs := [.int .i64 s.p.r, .int .i64 s.p.n]) rfl (H1.cellsR (i := 0) rfl rfl))<|cOp e109<|OY rfl<|Xm rfl<|OY rfl<|OX (EC gf46 rfl) (may9 _ _ _) (fun hp36 w2 Hd => ?_) (fun hp36 w2 Hd => ?_)
 have H2 := H1.callN Hd
 refine OY rfl<|Xn rfl<|Xt rfl rfl<|Xm rfl<|cOp e109<|OY rfl<|Xf fl57_2 rfl<|OY rfl<|OV (EL ty3 rfl (H2.cell (i := 0) rfl rfl))<|cOp e109<|OY rfl<|OT (ex_lss rfl rfl) (fun hp42 => ?_) (fun hp42 => ?_)
 refine Xu rfl rfl<|Xm rfl<|cOp e109<|OZ rfl<|OZ rfl<|cOp e109<|OZ rfl<|Xt rfl rfl<|Xm rfl<|cOp e109<|OZ rfl<|OZ rfl<|cOp e109<|OZ rfl<|OZ rfl<|cOp e109<|OZ rfl<|OZ rfl<|cOp e109<|OZ rfl<|OZ rfl<|cOp e109<|OZ rfl<|Xt rfl rfl<|Xm rfl<|cOp e109<|OZ rfl<|OZ rfl<|cOp e109<|OZ rfl<|OZ rfl<|Xt rfl rfl<|Xr e109<|J3 rfl<|Rq<|Xa rfl<|Xr e109 ?_
 refine J5<|FN1 rfl rfl<|⟨_, rfl, Ans.no (chk_f2 (by omega)), H2.noRows⟩
 refine Xu rfl rfl<|Xm rfl<|cOp e109<|OY rfl<|Xf fl57_2 rfl<|OY rfl<|OV (EL ty3 rfl (H2.cell (i := 0) rfl rfl))<|cOp e109<|OY rfl<|OT (ex_gtr rfl rfl) (fun hp47 => ?_) (fun hp47 => ?_)
 refine Xu rfl rfl<|Xm rfl<|cOp e109<|OZ rfl<|OZ rfl<|cOp e109<|OZ rfl<|OZ rfl<|cOp e109<|OZ rfl<|OZ rfl<|cOp e109<|OZ rfl<|OZ rfl<|cOp e109<|OZ rfl<|Xt rfl rfl<|Xm rfl<|cOp e109<|OZ rfl<|OZ rfl<|cOp e109<|OZ rfl<|OZ rfl<|Xt rfl rfl<|Xr e109<|J3 rfl<|Rq<|Xa rfl<|Xr e109<|J5<|FN1 rfl rfl<|⟨_, rfl, Ans.no (chk_f2 (by omega)), H2.noRows⟩
 refine Xu rfl rfl<|Xm rfl<|cOp e109<|OY rfl<|Xf fl57_2 rfl<|OY rfl<|OV (EL ty3 rfl (H2.cell (i := 0) rfl rfl))<|cOp e109<|OY rfl<|OT (ex_eql rfl rfl) (fun hp52 => ?_) (fun hp52 => ?_)
 refine OY rfl<|Xm rfl<|OY rfl<|Xf fl57_3 rfl<|cOp e109<|OY rfl<|OV (EL ty37 rfl (H2.cell (i := 0) rfl rfl))<|OY rfl<|OV (ES Tryz.underlying37 rfl)<|cOp e109<|OY rfl<|OT (ex_gtr rfl rfl) (fun hp57 => ?_) (fun hp57 => ?_)
 refine OY rfl<|Xt rfl rfl<|Xu rfl rfl<|Xm rfl<|cOp e109<|OZ rfl<|OZ rfl<|cOp e109<|OZ rfl<|OZ rfl<|Xt rfl rfl<|Xr e109<|J3 rfl<|Rq<|Xa rfl<|Xr e109<|J5<|FN1 rfl rfl<|⟨_, rfl, Ans.no (chk_f2 (by omega)), H2.noRows⟩
 refine OY rfl<|Xt rfl rfl<|Xu rfl rfl<|Xm rfl<|cOp e109<|OY rfl<|Xf fl57_3 rfl<|OY rfl<|OV (EL ty37 rfl (H2.cell (i := 0) rfl rfl))<|cOp e109<|OY rfl<|OV (ES Tryz.underlying37 rfl)<|OY rfl<|OT (ex_gtr rfl rfl) (fun hp64 => ?_) (fun hp64 => ?_)
 refine Xu rfl rfl<|Xr e109<|J3 rfl<|Rq<|Xa rfl<|Xr e109<|J5<|FN1 rfl rfl<|⟨_, rfl, Ans.no (chk_f2 (by omega)), H2.noRows⟩
 refine Xu rfl rfl<|Xr e109<|J4 rfl<|J6<|Rq<|Xf fl57_2 rfl<|OV (EL ty3 rfl (H2.cell (i := 0) rfl rfl))<|Xa rfl<|Xr e109<|J1<|Rq<|Xa rfl<|Xr e109<|J7<|run_loop (fun nQ lQ w => ∃ (i : Nat) (y m : Int), s.entries.length - i = nQ ∧ Fits [none, some (.int .i64 5), none, none, none, some (.pointer (some ⟨gs, 0, none⟩)), none, some (.int .i64 m), some (.int .i64 y), none, none, none, none, none, none, none, none, none, none, none, none, none, none, none, none, none, none, none, none, none, none, none, none, none, none, none, none, none, none, none, none, none, none, none, none, none, none, none, none, none, none, none, none, none, none, none, none, none, none, none, none, none, none, none, none, none, none, none, none, none, none, none, none, none, none, none, none, none, none, none, none, none, none, none, none, none, none, none, none, none, none, none, none, none, none, none, none, none, none, none, none, none, none, none, none, none, none, none, none] lQ ∧ y = (i : Int) ∧ m = s.index + i ∧ i ≤ s.entries.length ∧ entOk s.index s.entries = entOk (s.index + i) (s.entries.drop i) ∧ Hp w0 w [] [((some gs, 57, [.int .i64 s.p.r, .int .i64 s.p.n, .slice A1 s.votes.length k1, .int .i64 s.index, .slice A2 s.image.length k2, .slice A3 s.entries.length k3]) : Ent)]) (s.entries.length) ?_ ?_
 exact ⟨0, _, _, rfl, (fn (fs (fn (fn (fn (fs (fn (fs (fs (fn (fn (fn (fn (fn (fn (fn (fn (fn (fn (fn (fn (fn (fn (fn (fn (fn (fn (fn (fn (fn (fn (fn (fn (fn (fn (fn (fn (fn (fn (fn (fn (fn (fn (fn (fn (fn (fn (fn (fn (fn (fn (fn (fn (fn (fn (fn (fn (fn (fn (fn (fn (fn (fn (fn (fn (fn (fn (fn (fn (fn (fn (fn (fn (fn (fn (fn (fn (fn (fn (fn (fn (fn (fn (fn (fn (fn (fn (fn (fn (fn (fn (fn (fn (fn (fn (fn (fn (fn (fn (fn (fn (fn (fn (fn (fn (fn (fn (fn (fn f0))))))))))))))))))))))))))))))))))))))))))))))))))))))))))))))))))))))))))))))))))))))))))))))))))))))))))))), rfl, by simp, Nat.zero_le _, by simp, H2⟩
 rintro nQ lQ w3 ⟨i, y, m, rfl, hfit, rfl, hm, hi, hinv, H3⟩
 obtain ⟨j, rfl⟩ := hfit.open
 refine cR e109 ?_
 clear hfit
 refine J1<|Rq<|Xm rfl<|Xf fl57_4 rfl<|OV (EL ty55 rfl (H3.cell (i := 0) rfl rfl))<|OV (ES Tryz.underlying55 rfl)<|cOp e109<|OT (ex_lss rfl rfl) (fun hp72 => ?_) (fun hp72 => ?_)
 have hil : i < s.entries.length := by omega
 obtain ⟨x, hx⟩ := get_of hil
 obtain ⟨p1, hp1, hR⟩ := he2.get hx
 obtain ⟨Ax, kx, rfl, hbx⟩ := hR
 obtain ⟨a1, ha1⟩ := hre.some_ (by omega)
 subst ha1
 refine Xr e109<|J3 rfl<|J6<|J1<|J7<|J1<|Rq<|Xf fl57_4 rfl<|OV (EL ty55 rfl (H3.cell (i := 0) rfl rfl))<|Xm rfl<|OV (EI Tryz.underlying55 ty41 rfl rfl rfl hil rfl)<|cOp e109<|OV (ex_fieldAddrA fl41_0 rfl)<|OV (EL ty3 rfl (((hre.to0 H3).elem hpe hp1) 0 _ rfl))<|Xm rfl<|OV (ex_add rfl rfl (IntWalk.i64_in _ (by omega)))<|cOp e109<|OT (ex_neq rfl rfl) (fun hp83 => ?_) (fun hp83 => ?_)
 refine Xm rfl<|OZ rfl<|cOp e109<|OZ rfl<|OZ rfl<|Xt rfl rfl<|Xm rfl<|cOp e109<|OZ rfl<|OZ rfl<|cOp e109<|OZ rfl<|OZ rfl<|cOp e109<|OZ rfl<|OZ rfl<|cOp e109<|OZ rfl<|OZ rfl<|Xt rfl rfl<|Xr e109<|J3 rfl<|Rq<|Xa rfl<|Xr e109<|J5<|BR<|rnd_ret<|BR<|FN1 rfl rfl<|⟨_, rfl, Ans.no (chk_f3 (by rw [hinv]; exact ent_no hx fun hh => by omega)), H3.noRows⟩
 refine Xm rfl<|OY rfl<|Xm rfl<|cOp e109<|OY rfl<|OV (ex_add rfl rfl (IntWalk.i64_in _ (by omega)))<|OY rfl<|OT (ex_gtr rfl rfl) (fun hp87 => ?_) (fun hp87 => ?_)
 refine Xu rfl rfl<|Xm rfl<|cOp e109<|OZ rfl<|OZ rfl<|cOp e109<|OZ rfl<|OZ rfl<|cOp e109<|OZ rfl<|OZ rfl<|cOp e109<|OZ rfl<|OZ rfl<|Xt rfl rfl<|Xr e109<|J3 rfl<|Rq<|Xa rfl<|Xr e109<|J5<|BR<|rnd_ret<|BR<|FN1 rfl rfl<|⟨_, rfl, Ans.no (chk_f3 (by rw [hinv]; exact ent_no hx fun hh => by omega)), H3.noRows⟩
 refine Xu rfl rfl<|Xm rfl<|cOp e109<|OY rfl<|Xf fl57_4 rfl<|OY rfl<|OV (EL ty55 rfl (H3.cell (i := 0) rfl rfl))<|cOp e109<|OY rfl<|Xm rfl<|OY rfl<|OV (EI Tryz.underlying55 ty41 rfl rfl rfl hil rfl)<|cOp e109<|OY rfl<|OV (ex_fieldAddrA fl41_1 rfl)<|OY rfl<|OV (EL ty37 rfl (((hre.to0 H3).elem hpe hp1) 1 _ rfl))<|cOp e109<|OY rfl<|OV (ES Tryz.underlying37 rfl)<|OY rfl<|OT (ex_gtr rfl rfl) (fun hp97 => ?_) (fun hp97 => ?_)
 refine Xu rfl rfl<|Xr e109<|J3 rfl<|Rq<|Xa rfl<|Xr e109<|J5<|BR<|rnd_ret<|BR<|FN1 rfl rfl<|⟨_, rfl, Ans.no (chk_f3 (by rw [hinv]; exact ent_no hx fun hh => by omega)), H3.noRows⟩
 refine Xu rfl rfl<|Xr e109<|J4 rfl<|J6<|J2<|Xm rfl<|OV (ex_add rfl rfl (IntWalk.i64_in _ (by omega)))<|Xa rfl<|Xr e109<|run_nil (blk_normal ?_)
 refine J2<|Xm rfl<|OV (ex_add rfl rfl (IntWalk.i64_in _ (by omega)))<|Xa rfl<|Xr e109<|run_nil (rnd_normal ?_)
 have hgo := ent_go (m := s.index + i) hx ⟨by omega, by omega, by omega⟩
 exact ⟨s.entries.length - (i + 1), by omega, i + 1, _, _, rfl, (fn (fs (fn (fn (fn (fs (fn (fs (fs (fn (fn (fn (fn (fn (fn (fn (fn (fn (fn (fn (fn (fn (fn (fn (fn (fn (fn (fn (fn (fn (fn (fn (fn (fn (fn (fn (fn (fn (fn (fn (fn (fn (fn (fn (fn (fn (fn (fn (fn (fn (fn (fn (fn (fn (fn (fn (fn (fn (fn (fn (fn (fn (fn (fn (fn (fn (fn (fn (fn (fn (fn (fn (fn (fn (fn (fn (fn (fn (fn (fn (fn (fn (fn (fn (fn (fn (fn (fn (fn (fn (fn (fn (fn (fn (fn (fn (fn (fn (fn (fn (fn (fn (fn (fn (fn (fn (fn (fn (fn f0))))))))))))))))))))))))))))))))))))))))))))))))))))))))))))))))))))))))))))))))))))))))))))))))))))))))))))), by omega, by omega, by omega, by rw [hinv, hgo]; congr 1; omega, H3.pick [0] (by decide)⟩
 obtain rfl : i = s.entries.length := by omega
 have hent := hinv.trans ent_end
 subst hm
 refine Xr e109<|J4 rfl<|J8<|rnd_exit<|blk_exit<|J1<|Rq<|Xf fl57_0 rfl<|OV (EN ty36 rfl (vs := [.int .i64 s.p.r, .int .i64 s.p.n]) rfl (H3.cellsR (i := 0) rfl rfl))<|Xm rfl<|OV (ex_add rfl rfl (IntWalk.i64_in _ (by omega)))<|cOp e109<|Xf fl57_1 rfl<|OV (EL ty54 rfl (H3.cell (i := 0) rfl rfl))<|OQ (EC gf47 rfl) (load_r s.p (s.index + s.entries.length + 1) A1 k1 s.votes ok _ (hv1.toV H3 k0) (by omega) (by omega)) ?_
 rintro _ w4 ⟨a, rfl, hyes, hno, Hd⟩
 have H4 := H3.callN Hd
 rw [← chk_ld (by omega) (by omega) hent] at hyes hno
 refine OT (ex_eql_nil_ptr Tryz.underlying90 rfl) (fun hp108 => ?_) (fun hp108 => ?_)
 refine Xr e109<|J3 rfl<|Rq<|Xa rfl<|Xr e109<|J5<|FN1 rfl rfl<|⟨_, rfl, Ans.no (by cases hc : chk s with | false => rfl | true => obtain ⟨x, hx⟩ := hyes hc; rw [hx] at hp108; cases hp108), H4.noRows⟩
 refine Xr e109<|J4 rfl<|J6<|Rq<|Xa rfl<|Xr e109<|J5<|FN1 rfl rfl<|⟨_, rfl, Ans.ok (by cases hc : chk s with | true => rfl | false => exact absurd (hno hc) hp108), H4.noRows⟩
 refine OY rfl<|Xm rfl<|OZ rfl<|cOp e109<|OZ rfl<|OZ rfl<|cOp e109<|OZ rfl<|OY rfl<|Xu rfl rfl<|Xu rfl rfl<|Xm rfl<|cOp e109<|OY rfl<|Xf fl57_3 rfl<|OY rfl<|OV (EL ty37 rfl (H2.cell (i := 0) rfl rfl))<|cOp e109<|OY rfl<|OV (ES Tryz.underlying37 rfl)<|OY rfl<|OT (ex_gtr rfl rfl) (fun hp64 => ?_) (fun hp64 => ?_)
 refine Xu rfl rfl<|Xr e109<|J3 rfl<|Rq<|Xa rfl<|Xr e109<|J5<|FN1 rfl rfl<|⟨_, rfl, Ans.no (chk_f2 (by omega)), H2.noRows⟩
 refine Xu rfl rfl<|Xr e109<|J4 rfl<|J6<|Rq<|Xf fl57_2 rfl<|OV (EL ty3 rfl (H2.cell (i := 0) rfl rfl))<|Xa rfl<|Xr e109<|J1<|Rq<|Xa rfl<|Xr e109<|J7<|run_loop (fun nQ lQ w => ∃ (i : Nat) (y m : Int), s.entries.length - i = nQ ∧ Fits [none, some (.int .i64 5), none, none, none, some (.pointer (some ⟨gs, 0, none⟩)), none, some (.int .i64 m), some (.int .i64 y), none, none, none, none, none, none, none, none, none, none, none, none, none, none, none, none, none, none, none, none, none, none, none, none, none, none, none, none, none, none, none, none, none, none, none, none, none, none, none, none, none, none, none, none, none, none, none, none, none, none, none, none, none, none, none, none, none, none, none, none, none, none, none, none, none, none, none, none, none, none, none, none, none, none, none, none, none, none, none, none, none, none, none, none, none, none, none, none, none, none, none, none, none, none, none, none, none, none, none, none] lQ ∧ y = (i : Int) ∧ m = s.index + i ∧ i ≤ s.entries.length ∧ entOk s.index s.entries = entOk (s.index + i) (s.entries.drop i) ∧ Hp w0 w [] [((some gs, 57, [.int .i64 s.p.r, .int .i64 s.p.n, .slice A1 s.votes.length k1, .int .i64 s.index, .slice A2 s.image.length k2, .slice A3 s.entries.length k3]) : Ent)]) (s.entries.length) ?_ ?_
 exact ⟨0, _, _, rfl, (fn (fs (fn (fn (fn (fs (fn (fs (fs (fn (fn (fn (fn (fn (fn (fn (fn (fn (fn (fn (fn (fn (fn (fn (fn (fn (fn (fn (fn (fn (fn (fn (fn (fn (fn (fn (fn (fn (fn (fn (fn (fn (fn (fn (fn (fn (fn (fn (fn (fn (fn (fn (fn (fn (fn (fn (fn (fn (fn (fn (fn (fn (fn (fn (fn (fn (fn (fn (fn (fn (fn (fn (fn (fn (fn (fn (fn (fn (fn (fn (fn (fn (fn (fn (fn (fn (fn (fn (fn (fn (fn (fn (fn (fn (fn (fn (fn (fn (fn (fn (fn (fn (fn (fn (fn (fn (fn (fn (fn f0))))))))))))))))))))))))))))))))))))))))))))))))))))))))))))))))))))))))))))))))))))))))))))))))))))))))))))), rfl, by simp, Nat.zero_le _, by simp, H2⟩
 rintro nQ lQ w3 ⟨i, y, m, rfl, hfit, rfl, hm, hi, hinv, H3⟩
 obtain ⟨j, rfl⟩ := hfit.open
 refine cR e109 ?_
 clear hfit
 refine J1<|Rq<|Xm rfl<|Xf fl57_4 rfl<|OV (EL ty55 rfl (H3.cell (i := 0) rfl rfl))<|OV (ES Tryz.underlying55 rfl)<|cOp e109<|OT (ex_lss rfl rfl) (fun hp72 => ?_) (fun hp72 => ?_)
 have hil : i < s.entries.length := by omega
 obtain ⟨x, hx⟩ := get_of hil
 obtain ⟨p1, hp1, hR⟩ := he2.get hx
 obtain ⟨Ax, kx, rfl, hbx⟩ := hR
 obtain ⟨a1, ha1⟩ := hre.some_ (by omega)
 subst ha1
 refine Xr e109<|J3 rfl<|J6<|J1<|J7<|J1<|Rq<|Xf fl57_4 rfl<|OV (EL ty55 rfl (H3.cell (i := 0) rfl rfl))<|Xm rfl<|OV (EI Tryz.underlying55 ty41 rfl rfl rfl hil rfl)<|cOp e109<|OV (ex_fieldAddrA fl41_0 rfl)<|OV (EL ty3 rfl (((hre.to0 H3).elem hpe hp1) 0 _ rfl))<|Xm rfl<|OV (ex_add rfl rfl (IntWalk.i64_in _ (by omega)))<|cOp e109<|OT (ex_neq rfl rfl) (fun hp83 => ?_) (fun hp83 => ?_)
 refine Xm rfl<|OZ rfl<|cOp e109<|OZ rfl<|OZ rfl<|Xt rfl rfl<|Xm rfl<|cOp e109<|OZ rfl<|OZ rfl<|cOp e109<|OZ rfl<|OZ rfl<|cOp e109<|OZ rfl<|OZ rfl<|cOp e109<|OZ rfl<|OZ rfl<|Xt rfl rfl<|Xr e109<|J3 rfl<|Rq<|Xa rfl<|Xr e109<|J5<|BR<|rnd_ret<|BR<|FN1 rfl rfl<|⟨_, rfl, Ans.no (chk_f3 (by rw [hinv]; exact ent_no hx fun hh => by omega)), H3.noRows⟩
 refine Xm rfl<|OY rfl<|Xm rfl<|cOp e109<|OY rfl<|OV (ex_add rfl rfl (IntWalk.i64_in _ (by omega)))<|OY rfl<|OT (ex_gtr rfl rfl) (fun hp87 => ?_) (fun hp87 => ?_)
 refine Xu rfl rfl<|Xm rfl<|cOp e109<|OZ rfl<|OZ rfl<|cOp e109<|OZ rfl<|OZ rfl<|cOp e109<|OZ rfl<|OZ rfl<|cOp e109<|OZ rfl<|OZ rfl<|Xt rfl rfl<|Xr e109<|J3 rfl<|Rq<|Xa rfl<|Xr e109<|J5<|BR<|rnd_ret<|BR<|FN1 rfl rfl<|⟨_, rfl, Ans.no (chk_f3 (by rw [hinv]; exact ent_no hx fun hh => by omega)), H3.noRows⟩
 refine Xu rfl rfl<|Xm rfl<|cOp e109<|OY rfl<|Xf fl57_4 rfl<|OY rfl<|OV (EL ty55 rfl (H3.cell (i := 0) rfl rfl))<|cOp e109<|OY rfl<|Xm rfl<|OY rfl<|OV (EI Tryz.underlying55 ty41 rfl rfl rfl hil rfl)<|cOp e109<|OY rfl<|OV (ex_fieldAddrA fl41_1 rfl)<|OY rfl<|OV (EL ty37 rfl (((hre.to0 H3).elem hpe hp1) 1 _ rfl))<|cOp e109<|OY rfl<|OV (ES Tryz.underlying37 rfl)<|OY rfl<|OT (ex_gtr rfl rfl) (fun hp97 => ?_) (fun hp97 => ?_)
 refine Xu rfl rfl<|Xr e109<|J3 rfl<|Rq<|Xa rfl<|Xr e109<|J5<|BR<|rnd_ret<|BR<|FN1 rfl rfl<|⟨_, rfl, Ans.no (chk_f3 (by rw [hinv]; exact ent_no hx fun hh => by omega)), H3.noRows⟩
 refine Xu rfl rfl<|Xr e109<|J4 rfl<|J6<|J2<|Xm rfl<|OV (ex_add rfl rfl (IntWalk.i64_in _ (by omega)))<|Xa rfl<|Xr e109<|run_nil (blk_normal ?_)
 refine J2<|Xm rfl<|OV (ex_add rfl rfl (IntWalk.i64_in _ (by omega)))<|Xa rfl<|Xr e109<|run_nil (rnd_normal ?_)
 have hgo := ent_go (m := s.index + i) hx ⟨by omega, by omega, by omega⟩
 exact ⟨s.entries.length - (i + 1), by omega, i + 1, _, _, rfl, (fn (fs (fn (fn (fn (fs (fn (fs (fs (fn (fn (fn (fn (fn (fn (fn (fn (fn (fn (fn (fn (fn (fn (fn (fn (fn (fn (fn (fn (fn (fn (fn (fn (fn (fn (fn (fn (fn (fn (fn (fn (fn (fn (fn (fn (fn (fn (fn (fn (fn (fn (fn (fn (fn (fn (fn (fn (fn (fn (fn (fn (fn (fn (fn (fn (fn (fn (fn (fn (fn (fn (fn (fn (fn (fn (fn (fn (fn (fn (fn (fn (fn (fn (fn (fn (fn (fn (fn (fn (fn (fn (fn (fn (fn (fn (fn (fn (fn (fn (fn (fn (fn (fn (fn (fn (fn (fn (fn (fn f0))))))))))))))))))))))))))))))))))))))))))))))))))))))))))))))))))))))))))))))))))))))))))))))))))))))))))))), by omega, by omega, by omega, by rw [hinv, hgo]; congr 1; omega, H3.pick [0] (by decide)⟩
 obtain rfl : i = s.entries.length := by omega
 have hent := hinv.trans ent_end
 subst hm
 refine Xr e109<|J4 rfl<|J8<|rnd_exit<|blk_exit<|J1<|Rq<|Xf fl57_0 rfl<|OV (EN ty36 rfl (vs := [.int .i64 s.p.r, .int .i64 s.p.n]) rfl (H3.cellsR (i := 0) rfl rfl))<|Xm rfl<|OV (ex_add rfl rfl (IntWalk.i64_in _ (by omega)))<|cOp e109<|Xf fl57_1 rfl<|OV (EL ty54 rfl (H3.cell (i := 0) rfl rfl))<|OQ (EC gf47 rfl) (load_r s.p (s.index + s.entries.length + 1) A1 k1 s.votes ok _ (hv1.toV H3 k0) (by omega) (by omega)) ?_
 rintro _ w4 ⟨a, rfl, hyes, hno, Hd⟩
 have H4 := H3.callN Hd
 rw [← chk_ld (by omega) (by omega) hent] at hyes hno
 refine OT (ex_eql_nil_ptr Tryz.underlying90 rfl) (fun hp108 => ?_) (fun hp108 => ?_)
 refine Xr e109<|J3 rfl<|Rq<|Xa rfl<|Xr e109<|J5<|FN1 rfl rfl<|⟨_, rfl, Ans.no (by cases hc : chk s with | false => rfl | true => obtain ⟨x, hx⟩ := hyes hc; rw [hx] at hp108; cases hp108), H4.noRows⟩
 refine Xr e109<|J4 rfl<|J6<|Rq<|Xa rfl<|Xr e109<|J5<|FN1 rfl rfl<|⟨_, rfl, Ans.ok (by cases hc : chk s with | true => rfl | false => exact absurd (hno hc) hp108), H4.noRows⟩
 have H2 := H1.callN Hd
 refine OY rfl<|Xn rfl<|Xt rfl rfl<|Xm rfl<|cOp e109<|OZ rfl<|OZ rfl<|cOp e109<|OZ rfl<|Xt rfl rfl<|Xm rfl<|cOp e109<|OZ rfl<|OZ rfl<|cOp e109<|OZ rfl<|Xt rfl rfl<|Xm rfl<|cOp e109<|OZ rfl<|OZ rfl<|cOp e109<|OZ rfl<|OZ rfl<|cOp e109<|OZ rfl<|OZ rfl<|cOp e109<|OZ rfl<|OZ rfl<|cOp e109<|OZ rfl<|Xt rfl rfl<|Xm rfl<|cOp e109<|OZ rfl<|OZ rfl<|cOp e109<|OZ rfl<|OZ rfl ?_
 refine Xt rfl rfl<|Xr e109<|J3 rfl<|Rq<|Xa rfl<|Xr e109<|J5<|FN1 rfl rfl<|⟨_, rfl, Ans.no (chk_f1 (by omega)), H2.noRows⟩
 refine Xm rfl<|cOp e109<|OZ rfl<|OZ rfl<|cOp e109<|OZ rfl<|OZ rfl<|cOp e109<|OZ rfl<|Xu rfl rfl<|Xm rfl<|cOp e109<|OY rfl<|Xf fl57_2 rfl<|OY rfl<|OV (EL ty3 rfl (H1.cell (i := 0) rfl rfl))<|cOp e109<|OY rfl<|OT (ex_lss rfl rfl) (fun hp42 => ?_) (fun hp42 => ?_)
 refine Xu rfl rfl<|Xm rfl<|cOp e109<|OZ rfl<|OZ rfl<|cOp e109<|OZ rfl<|Xt rfl rfl<|Xm rfl<|cOp e109<|OZ rfl<|OZ rfl<|cOp e109<|OZ rfl<|OZ rfl<|cOp e109<|OZ rfl<|OZ rfl<|cOp e109<|OZ rfl<|OZ rfl<|cOp e109<|OZ rfl<|Xt rfl rfl<|Xm rfl<|cOp e109<|OZ rfl<|OZ rfl<|cOp e109<|OZ rfl<|OZ rfl<|Xt rfl rfl<|Xr e109<|J3 rfl<|Rq<|Xa rfl<|Xr e109 ?_
 refine J5<|FN1 rfl rfl<|⟨_, rfl, Ans.no (chk_f2 (by omega)), H1.noRows⟩
 refine Xu rfl rfl<|Xm rfl<|cOp e109<|OY rfl<|Xf fl57_2 rfl<|OY rfl<|OV (EL ty3 rfl (H1.cell (i := 0) rfl rfl))<|cOp e109<|OY rfl<|OT (ex_gtr rfl rfl) (fun hp47 => ?_) (fun hp47 => ?_)
 refine Xu rfl rfl<|Xm rfl<|cOp e109<|OZ rfl<|OZ rfl<|cOp e109<|OZ rfl<|OZ rfl<|cOp e109<|OZ rfl<|OZ rfl<|cOp e109<|OZ rfl<|OZ rfl<|cOp e109<|OZ rfl<|Xt rfl rfl<|Xm rfl<|cOp e109<|OZ rfl<|OZ rfl<|cOp e109<|OZ rfl<|OZ rfl<|Xt rfl rfl<|Xr e109<|J3 rfl<|Rq<|Xa rfl<|Xr e109<|J5<|FN1 rfl rfl<|⟨_, rfl, Ans.no (chk_f2 (by omega)), H1.noRows⟩
 refine Xu rfl rfl<|Xm rfl<|cOp e109<|OY rfl<|Xf fl57_2 rfl<|OY rfl<|OV (EL ty3 rfl (H1.cell (i := 0) rfl rfl))<|cOp e109<|OY rfl<|OT (ex_eql rfl rfl) (fun hp52 => ?_) (fun hp52 => ?_)
 refine OY rfl<|Xm rfl<|OY rfl<|Xf fl57_3 rfl<|cOp e109<|OY rfl<|OV (EL ty37 rfl (H1.cell (i := 0) rfl rfl))<|OY rfl<|OV (ES Tryz.underlying37 rfl)<|cOp e109<|OY rfl<|OT (ex_gtr rfl rfl) (fun hp57 => ?_) (fun hp57 => ?_)
 refine OY rfl<|Xt rfl rfl<|Xu rfl rfl<|Xm rfl<|cOp e109<|OZ rfl<|OZ rfl<|cOp e109<|OZ rfl<|OZ rfl<|Xt rfl rfl<|Xr e109<|J3 rfl<|Rq<|Xa rfl<|Xr e109<|J5<|FN1 rfl rfl<|⟨_, rfl, Ans.no (chk_f2 (by omega)), H1.noRows⟩
 refine OY rfl<|Xt rfl rfl<|Xu rfl rfl<|Xm rfl<|cOp e109<|OY rfl<|Xf fl57_3 rfl<|OY rfl<|OV (EL ty37 rfl (H1.cell (i := 0) rfl rfl))<|cOp e109<|OY rfl<|OV (ES Tryz.underlying37 rfl)<|OY rfl<|OT (ex_gtr rfl rfl) (fun hp64 => ?_) (fun hp64 => ?_)
 refine Xu rfl rfl<|Xr e109<|J3 rfl<|Rq<|Xa rfl<|Xr e109<|J5<|FN1 rfl rfl<|⟨_, rfl, Ans.no (chk_f2 (by omega)), H1.noRows⟩
 refine Xu rfl rfl<|Xr e109<|J4 rfl<|J6<|Rq<|Xf fl57_2 rfl<|OV (EL ty3 rfl (H1.cell (i := 0) rfl rfl))<|Xa rfl<|Xr e109<|J1<|Rq<|Xa rfl<|Xr e109<|J7<|run_loop (fun nQ lQ w => ∃ (i : Nat) (y m : Int), s.entries.length - i = nQ ∧ Fits [none, some (.int .i64 5), none, none, none, some (.pointer (some ⟨gs, 0, none⟩)), none, some (.int .i64 m), some (.int .i64 y), none, none, none, none, none, none, none, none, none, none, none, none, none, none, none, none, none, none, none, none, none, none, none, none, none, none, none, none, none, none, none, none, none, none, none, none, none, none, none, none, none, none, none, none, none, none, none, none, none, none, none, none, none, none, none, none, none, none, none, none, none, none, none, none, none, none, none, none, none, none, none, none, none, none, none, none, none, none, none, none, none, none, none, none, none, none, none, none, none, none, none, none, none, none, none, none, none, none, none, none] lQ ∧ y = (i : Int) ∧ m = s.index + i ∧ i ≤ s.entries.length ∧ entOk s.index s.entries = entOk (s.index + i) (s.entries.drop i) ∧ Hp w0 w [] [((some gs, 57, [.int .i64 s.p.r, .int .i64 s.p.n, .slice A1 s.votes.length k1, .int .i64 s.index, .slice A2 s.image.length k2, .slice A3 s.entries.length k3]) : Ent)]) (s.entries.length) ?_ ?_
 exact ⟨0, _, _, rfl, (fn (fs (fn (fn (fn (fs (fn (fs (fs (fn (fn (fn (fn (fn (fn (fn (fn (fn (fn (fn (fn (fn (fn (fn (fn (fn (fn (fn (fn (fn (fn (fn (fn (fn (fn (fn (fn (fn (fn (fn (fn (fn (fn (fn (fn (fn (fn (fn (fn (fn (fn (fn (fn (fn (fn (fn (fn (fn (fn (fn (fn (fn (fn (fn (fn (fn (fn (fn (fn (fn (fn (fn (fn (fn (fn (fn (fn (fn (fn (fn (fn (fn (fn (fn (fn (fn (fn (fn (fn (fn (fn (fn (fn (fn (fn (fn (fn (fn (fn (fn (fn (fn (fn (fn (fn (fn (fn (fn (fn f0))))))))))))))))))))))))))))))))))))))))))))))))))))))))))))))))))))))))))))))))))))))))))))))))))))))))))))), rfl, by simp, Nat.zero_le _, by simp, H1⟩
 rintro nQ lQ w2 ⟨i, y, m, rfl, hfit, rfl, hm, hi, hinv, H2⟩
 obtain ⟨j, rfl⟩ := hfit.open
 refine cR e109 ?_
 clear hfit
 refine J1<|Rq<|Xm rfl<|Xf fl57_4 rfl<|OV (EL ty55 rfl (H2.cell (i := 0) rfl rfl))<|OV (ES Tryz.underlying55 rfl)<|cOp e109<|OT (ex_lss rfl rfl) (fun hp72 => ?_) (fun hp72 => ?_)
 have hil : i < s.entries.length := by omega
 obtain ⟨x, hx⟩ := get_of hil
 obtain ⟨p1, hp1, hR⟩ := he2.get hx
 obtain ⟨Ax, kx, rfl, hbx⟩ := hR
 obtain ⟨a1, ha1⟩ := hre.some_ (by omega)
 subst ha1
 refine Xr e109<|J3 rfl<|J6<|J1<|J7<|J1<|Rq<|Xf fl57_4 rfl<|OV (EL ty55 rfl (H2.cell (i := 0) rfl rfl))<|Xm rfl<|OV (EI Tryz.underlying55 ty41 rfl rfl rfl hil rfl)<|cOp e109<|OV (ex_fieldAddrA fl41_0 rfl)<|OV (EL ty3 rfl (((hre.to0 H2).elem hpe hp1) 0 _ rfl))<|Xm rfl<|OV (ex_add rfl rfl (IntWalk.i64_in _ (by omega)))<|cOp e109<|OT (ex_neq rfl rfl) (fun hp83 => ?_) (fun hp83 => ?_)
 refine Xm rfl<|OZ rfl<|cOp e109<|OZ rfl<|OZ rfl<|Xt rfl rfl<|Xm rfl<|cOp e109<|OZ rfl<|OZ rfl<|cOp e109<|OZ rfl<|OZ rfl<|cOp e109<|OZ rfl<|OZ rfl<|cOp e109<|OZ rfl<|OZ rfl<|Xt rfl rfl<|Xr e109<|J3 rfl<|Rq<|Xa rfl<|Xr e109<|J5<|BR<|rnd_ret<|BR<|FN1 rfl rfl<|⟨_, rfl, Ans.no (chk_f3 (by rw [hinv]; exact ent_no hx fun hh => by omega)), H2.noRows⟩
 refine Xm rfl<|OY rfl<|Xm rfl<|cOp e109<|OY rfl<|OV (ex_add rfl rfl (IntWalk.i64_in _ (by omega)))<|OY rfl<|OT (ex_gtr rfl rfl) (fun hp87 => ?_) (fun hp87 => ?_)
 refine Xu rfl rfl<|Xm rfl<|cOp e109<|OZ rfl<|OZ rfl<|cOp e109<|OZ rfl<|OZ rfl<|cOp e109<|OZ rfl<|OZ rfl<|cOp e109<|OZ rfl<|OZ rfl<|Xt rfl rfl<|Xr e109<|J3 rfl<|Rq<|Xa rfl<|Xr e109<|J5<|BR<|rnd_ret<|BR<|FN1 rfl rfl<|⟨_, rfl, Ans.no (chk_f3 (by rw [hinv]; exact ent_no hx fun hh => by omega)), H2.noRows⟩
 refine Xu rfl rfl<|Xm rfl<|cOp e109<|OY rfl<|Xf fl57_4 rfl<|OY rfl<|OV (EL ty55 rfl (H2.cell (i := 0) rfl rfl))<|cOp e109<|OY rfl<|Xm rfl<|OY rfl<|OV (EI Tryz.underlying55 ty41 rfl rfl rfl hil rfl)<|cOp e109<|OY rfl<|OV (ex_fieldAddrA fl41_1 rfl)<|OY rfl<|OV (EL ty37 rfl (((hre.to0 H2).elem hpe hp1) 1 _ rfl))<|cOp e109<|OY rfl<|OV (ES Tryz.underlying37 rfl)<|OY rfl<|OT (ex_gtr rfl rfl) (fun hp97 => ?_) (fun hp97 => ?_)
 refine Xu rfl rfl<|Xr e109<|J3 rfl<|Rq<|Xa rfl<|Xr e109<|J5<|BR<|rnd_ret<|BR<|FN1 rfl rfl<|⟨_, rfl, Ans.no (chk_f3 (by rw [hinv]; exact ent_no hx fun hh => by omega)), H2.noRows⟩
 refine Xu rfl rfl<|Xr e109<|J4 rfl<|J6<|J2<|Xm rfl<|OV (ex_add rfl rfl (IntWalk.i64_in _ (by omega)))<|Xa rfl<|Xr e109<|run_nil (blk_normal ?_)
 refine J2<|Xm rfl<|OV (ex_add rfl rfl (IntWalk.i64_in _ (by omega)))<|Xa rfl<|Xr e109<|run_nil (rnd_normal ?_)
 have hgo := ent_go (m := s.index + i) hx ⟨by omega, by omega, by omega⟩
 exact ⟨s.entries.length - (i + 1), by omega, i + 1, _, _, rfl, (fn (fs (fn (fn (fn (fs (fn (fs (fs (fn (fn (fn (fn (fn (fn (fn (fn (fn (fn (fn (fn (fn (fn (fn (fn (fn (fn (fn (fn (fn (fn (fn (fn (fn (fn (fn (fn (fn (fn (fn (fn (fn (fn (fn (fn (fn (fn (fn (fn (fn (fn (fn (fn (fn (fn (fn (fn (fn (fn (fn (fn (fn (fn (fn (fn (fn (fn (fn (fn (fn (fn (fn (fn (fn (fn (fn (fn (fn (fn (fn (fn (fn (fn (fn (fn (fn (fn (fn (fn (fn (fn (fn (fn (fn (fn (fn (fn (fn (fn (fn (fn (fn (fn (fn (fn (fn (fn (fn (fn f0))))))))))))))))))))))))))))))))))))))))))))))))))))))))))))))))))))))))))))))))))))))))))))))))))))))))))))), by omega, by omega, by omega, by rw [hinv, hgo]; congr 1; omega, H2.pick [0] (by decide)⟩
 obtain rfl : i = s.entries.length := by omega
 have hent := hinv.trans ent_end
 subst hm
 refine Xr e109<|J4 rfl<|J8<|rnd_exit<|blk_exit<|J1<|Rq<|Xf fl57_0 rfl<|OV (EN ty36 rfl (vs := [.int .i64 s.p.r, .int .i64 s.p.n]) rfl (H2.cellsR (i := 0) rfl rfl))<|Xm rfl<|OV (ex_add rfl rfl (IntWalk.i64_in _ (by omega)))<|cOp e109<|Xf fl57_1 rfl<|OV (EL ty54 rfl (H2.cell (i := 0) rfl rfl))<|OQ (EC gf47 rfl) (load_r s.p (s.index + s.entries.length + 1) A1 k1 s.votes ok _ (hv1.toV H2 k0) (by omega) (by omega)) ?_
 rintro _ w3 ⟨a, rfl, hyes, hno, Hd⟩
 have H3 := H2.callN Hd
 rw [← chk_ld (by omega) (by omega) hent] at hyes hno
 refine OT (ex_eql_nil_ptr Tryz.underlying90 rfl) (fun hp108 => ?_) (fun hp108 => ?_)
 refine Xr e109<|J3 rfl<|Rq<|Xa rfl<|Xr e109<|J5<|FN1 rfl rfl<|⟨_, rfl, Ans.no (by cases hc : chk s with | false => rfl | true => obtain ⟨x, hx⟩ := hyes hc; rw [hx] at hp108; cases hp108), H3.noRows⟩
 refine Xr e109<|J4 rfl<|J6<|Rq<|Xa rfl<|Xr e109<|J5<|FN1 rfl rfl<|⟨_, rfl, Ans.ok (by cases hc : chk s with | true => rfl | false => exact absurd (hno hc) hp108), H3.noRows⟩
 refine OY rfl<|Xm rfl<|OZ rfl<|cOp e109<|OZ rfl<|OZ rfl<|cOp e109<|OZ rfl<|OY rfl<|Xu rfl rfl<|Xu rfl rfl<|Xm rfl<|cOp e109<|OY rfl<|Xf fl57_3 rfl<|OY rfl<|OV (EL ty37 rfl (H1.cell (i := 0) rfl rfl))<|cOp e109<|OY rfl<|OV (ES Tryz.underlying37 rfl)<|OY rfl<|OT (ex_gtr rfl rfl) (fun hp64 => ?_) (fun hp64 => ?_)
 refine Xu rfl rfl<|Xr e109<|J3 rfl<|Rq<|Xa rfl<|Xr e109<|J5<|FN1 rfl rfl<|⟨_, rfl, Ans.no (chk_f2 (by omega)), H1.noRows⟩
 refine Xu rfl rfl<|Xr e109<|J4 rfl<|J6<|Rq<|Xf fl57_2 rfl<|OV (EL ty3 rfl (H1.cell (i := 0) rfl rfl))<|Xa rfl<|Xr e109<|J1<|Rq<|Xa rfl<|Xr e109<|J7<|run_loop (fun nQ lQ w => ∃ (i : Nat) (y m : Int), s.entries.length - i = nQ ∧ Fits [none, some (.int .i64 5), none, none, none, some (.pointer (some ⟨gs, 0, none⟩)), none, some (.int .i64 m), some (.int .i64 y), none, none, none, none, none, none, none, none, none, none, none, none, none, none, none, none, none, none, none, none, none, none, none, none, none, none, none, none, none, none, none, none, none, none, none, none, none, none, none, none, none, none, none, none, none, none, none, none, none, none, none, none, none, none, none, none, none, none, none, none, none, none, none, none, none, none, none, none, none, none, none, none, none, none, none, none, none, none, none, none, none, none, none, none, none, none, none, none, none, none, none, none, none, none, none, none, none, none, none, none] lQ ∧ y = (i : Int) ∧ m = s.index + i ∧ i ≤ s.entries.length ∧ entOk s.index s.entries = entOk (s.index + i) (s.entries.drop i) ∧ Hp w0 w [] [((some gs, 57, [.int .i64 s.p.r, .int .i64 s.p.n, .slice A1 s.votes.length k1, .int .i64 s.index, .slice A2 s.image.length k2, .slice A3 s.entries.length k3]) : Ent)]) (s.entries.length) ?_ ?_
 exact ⟨0, _, _, rfl, (fn (fs (fn (fn (fn (fs (fn (fs (fs (fn (fn (fn (fn (fn (fn (fn (fn (fn (fn (fn (fn (fn (fn (fn (fn (fn (fn (fn (fn (fn (fn (fn (fn (fn (fn (fn (fn (fn (fn (fn (fn (fn (fn (fn (fn (fn (fn (fn (fn (fn (fn (fn (fn (fn (fn (fn (fn (fn (fn (fn (fn (fn (fn (fn (fn (fn (fn (fn (fn (fn (fn (fn (fn (fn (fn (fn (fn (fn (fn (fn (fn (fn (fn (fn (fn (fn (fn (fn (fn (fn (fn (fn (fn (fn (fn (fn (fn (fn (fn (fn (fn (fn (fn (fn (fn (fn (fn (fn (fn f0))))))))))))))))))))))))))))))))))))))))))))))))))))))))))))))))))))))))))))))))))))))))))))))))))))))))))))), rfl, by simp, Nat.zero_le _, by simp, H1⟩
 rintro nQ lQ w2 ⟨i, y, m, rfl, hfit, rfl, hm, hi, hinv, H2⟩
 obtain ⟨j, rfl⟩ := hfit.open
 refine cR e109 ?_
 clear hfit
 refine J1<|Rq<|Xm rfl<|Xf fl57_4 rfl<|OV (EL ty55 rfl (H2.cell (i := 0) rfl rfl))<|OV (ES Tryz.underlying55 rfl)<|cOp e109<|OT (ex_lss rfl rfl) (fun hp72 => ?_) (fun hp72 => ?_)
 have hil : i < s.entries.length := by omega
 obtain ⟨x, hx⟩ := get_of hil
 obtain ⟨p1, hp1, hR⟩ := he2.get hx
 obtain ⟨Ax, kx, rfl, hbx⟩ := hR
 obtain ⟨a1, ha1⟩ := hre.some_ (by omega)
 subst ha1
 refine Xr e109<|J3 rfl<|J6<|J1<|J7<|J1<|Rq<|Xf fl57_4 rfl<|OV (EL ty55 rfl (H2.cell (i := 0) rfl rfl))<|Xm rfl<|OV (EI Tryz.underlying55 ty41 rfl rfl rfl hil rfl)<|cOp e109<|OV (ex_fieldAddrA fl41_0 rfl)<|OV (EL ty3 rfl (((hre.to0 H2).elem hpe hp1) 0 _ rfl))<|Xm rfl<|OV (ex_add rfl rfl (IntWalk.i64_in _ (by omega)))<|cOp e109<|OT (ex_neq rfl rfl) (fun hp83 => ?_) (fun hp83 => ?_)
 refine Xm rfl<|OZ rfl<|cOp e109<|OZ rfl<|OZ rfl<|Xt rfl rfl<|Xm rfl<|cOp e109<|OZ rfl<|OZ rfl<|cOp e109<|OZ rfl<|OZ rfl<|cOp e109<|OZ rfl<|OZ rfl<|cOp e109<|OZ rfl<|OZ rfl<|Xt rfl rfl<|Xr e109<|J3 rfl<|Rq<|Xa rfl<|Xr e109<|J5<|BR<|rnd_ret<|BR<|FN1 rfl rfl<|⟨_, rfl, Ans.no (chk_f3 (by rw [hinv]; exact ent_no hx fun hh => by omega)), H2.noRows⟩
 refine Xm rfl<|OY rfl<|Xm rfl<|cOp e109<|OY rfl<|OV (ex_add rfl rfl (IntWalk.i64_in _ (by omega)))<|OY rfl<|OT (ex_gtr rfl rfl) (fun hp87 => ?_) (fun hp87 => ?_)
 refine Xu rfl rfl<|Xm rfl<|cOp e109<|OZ rfl<|OZ rfl<|cOp e109<|OZ rfl<|OZ rfl<|cOp e109<|OZ rfl<|OZ rfl<|cOp e109<|OZ rfl<|OZ rfl<|Xt rfl rfl<|Xr e109<|J3 rfl<|Rq<|Xa rfl<|Xr e109<|J5<|BR<|rnd_ret<|BR<|FN1 rfl rfl<|⟨_, rfl, Ans.no (chk_f3 (by rw [hinv]; exact ent_no hx fun hh => by omega)), H2.noRows⟩
 refine Xu rfl rfl<|Xm rfl<|cOp e109<|OY rfl<|Xf fl57_4 rfl<|OY rfl<|OV (EL ty55 rfl (H2.cell (i := 0) rfl rfl))<|cOp e109<|OY rfl<|Xm rfl<|OY rfl<|OV (EI Tryz.underlying55 ty41 rfl rfl rfl hil rfl)<|cOp e109<|OY rfl<|OV (ex_fieldAddrA fl41_1 rfl)<|OY rfl<|OV (EL ty37 rfl (((hre.to0 H2).elem hpe hp1) 1 _ rfl))<|cOp e109<|OY rfl<|OV (ES Tryz.underlying37 rfl)<|OY rfl<|OT (ex_gtr rfl rfl) (fun hp97 => ?_) (fun hp97 => ?_)
 refine Xu rfl rfl<|Xr e109<|J3 rfl<|Rq<|Xa rfl<|Xr e109<|J5<|BR<|rnd_ret<|BR<|FN1 rfl rfl<|⟨_, rfl, Ans.no (chk_f3 (by rw [hinv]; exact ent_no hx fun hh => by omega)), H2.noRows⟩
 refine Xu rfl rfl<|Xr e109<|J4 rfl<|J6<|J2<|Xm rfl<|OV (ex_add rfl rfl (IntWalk.i64_in _ (by omega)))<|Xa rfl<|Xr e109<|run_nil (blk_normal ?_)
 refine J2<|Xm rfl<|OV (ex_add rfl rfl (IntWalk.i64_in _ (by omega)))<|Xa rfl<|Xr e109<|run_nil (rnd_normal ?_)
 have hgo := ent_go (m := s.index + i) hx ⟨by omega, by omega, by omega⟩
 exact ⟨s.entries.length - (i + 1), by omega, i + 1, _, _, rfl, (fn (fs (fn (fn (fn (fs (fn (fs (fs (fn (fn (fn (fn (fn (fn (fn (fn (fn (fn (fn (fn (fn (fn (fn (fn (fn (fn (fn (fn (fn (fn (fn (fn (fn (fn (fn (fn (fn (fn (fn (fn (fn (fn (fn (fn (fn (fn (fn (fn (fn (fn (fn (fn (fn (fn (fn (fn (fn (fn (fn (fn (fn (fn (fn (fn (fn (fn (fn (fn (fn (fn (fn (fn (fn (fn (fn (fn (fn (fn (fn (fn (fn (fn (fn (fn (fn (fn (fn (fn (fn (fn (fn (fn (fn (fn (fn (fn (fn (fn (fn (fn (fn (fn (fn (fn (fn (fn (fn (fn f0))))))))))))))))))))))))))))))))))))))))))))))))))))))))))))))))))))))))))))))))))))))))))))))))))))))))))))), by omega, by omega, by omega, by rw [hinv, hgo]; congr 1; omega, H2.pick [0] (by decide)⟩
 obtain rfl : i = s.entries.length := by omega
 have hent := hinv.trans ent_end
 subst hm
 refine Xr e109<|J4 rfl<|J8<|rnd_exit<|blk_exit<|J1<|Rq<|Xf fl57_0 rfl<|OV (EN ty36 rfl (vs := [.int .i64 s.p.r, .int .i64 s.p.n]) rfl (H2.cellsR (i := 0) rfl rfl))<|Xm rfl<|OV (ex_add rfl rfl (IntWalk.i64_in _ (by omega)))<|cOp e109<|Xf fl57_1 rfl<|OV (EL ty54 rfl (H2.cell (i := 0) rfl rfl))<|OQ (EC gf47 rfl) (load_r s.p (s.index + s.entries.length + 1) A1 k1 s.votes ok _ (hv1.toV H2 k0) (by omega) (by omega)) ?_
 rintro _ w3 ⟨a, rfl, hyes, hno, Hd⟩
 have H3 := H2.callN Hd
 rw [← chk_ld (by omega) (by omega) hent] at hyes hno
 refine OT (ex_eql_nil_ptr Tryz.underlying90 rfl) (fun hp108 => ?_) (fun hp108 => ?_)
 refine Xr e109<|J3 rfl<|Rq<|Xa rfl<|Xr e109<|J5<|FN1 rfl rfl<|⟨_, rfl, Ans.no (by cases hc : chk s with | false => rfl | true => obtain ⟨x, hx⟩ := hyes hc; rw [hx] at hp108; cases hp108), H3.noRows⟩
 refine Xr e109<|J4 rfl<|J6<|Rq<|Xa rfl<|Xr e109<|J5<|FN1 rfl rfl<|⟨_, rfl, Ans.ok (by cases hc : chk s with | true => rfl | false => exact absurd (hno hc) hp108), H3.noRows⟩
end Go.Proofs.YtbninklfoogmdaaGreat
