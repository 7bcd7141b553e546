/- Walks of layer 2, printed by wip/gen/codec.py. -/
import Derived.Test.YtbninklfoogmdaaGreatNf
import Derived.Test.YtbninklfoogmdaaGreatVr
import Derived.Test.YtbninklfoogmdaaGreatVaA
import Derived.Test.YtbninklfoogmdaaGreatVaB
namespace Go.Proofs.YtbninklfoogmdaaGreat
open Go Go.RowKit
set_option linter.unusedVariables false
attribute [local irreducible] Still Ops Does Cd
set_option maxRecDepth 100000 in
set_option maxHeartbeats 4000000 in
theorem copied_a (x : Vt) (Ax : Option Addr) (kx : Nat) (ok : Nat → Prop) (w0 : World) (hb : Bs w0 ok Ax x.val) : Does Tryz.prog 108 #[.agg [.int .i64 x.slot, .int .i64 x.b.r, .int .i64 x.b.n, .slice Ax x.val.length kx].toArray] w0 (fun _ w' => Hp w0 w' [] []) := by
 refine does_of Tryz.func108 Tryz.ntmps108 rfl<|cR e8 ?_
 have H := Hp.refl w0
 refine Rq<|ops_box rfl rfl H<|fun w1 g1 H1 hg1=>OA ty39 H1<|fun w2 g2 H2 hg2=>Xr e8<|Rq<|Xf fl39_2 rfl<|OV (EL ty37 rfl (H2.cell (i := 0) rfl rfl))<|ops_call_own (EC gf51 rfl) (clone_any Ax x.val kx _ (hb.1.to0 H2) (by have := hb.2.2; omega))<|fun w3 gb cb sb hmb hcb hgb Hc=>have H3:=H2.call0 Hc;Xf fl39_2 rfl<|cOp e8<|OW ty37 H3 0 rfl rfl rfl rfl (by first | decide | (simp; done) | simp [putAt]) rfl<|fun w4 H4=>Xr e8<|Rq<|OV (EN ty39 rfl (vs := [.int .i64 x.slot, .int .i64 x.b.r, .int .i64 x.b.n, .slice (hd gb) x.val.length cb]) rfl (H4.cellsR (i := 0) rfl rfl))<|OS ty39 H4 1 rfl rfl rfl rfl rfl (by first | decide | (simp; done) | simp [putAt]) rfl<|fun w5 H5=>Xr e8<|J5<|fin_cell rfl ty39 (cs := [.int .i64 x.slot, .int .i64 x.b.r, .int .i64 x.b.n, .slice (hd gb) x.val.length cb]) rfl rfl (H5.cellsR (i := 1) rfl rfl)<|H5.noRows
set_option maxRecDepth 100000 in
set_option maxHeartbeats 16000000 in
theorem load_a (p : Bal) (first : Int) (A : Option Addr) (k : Nat) (l : List Vt) (ok : Nat → Prop) (w0 : World) (hl : Sl (VtR w0 ok) 4 w0 ok A l) (hn : l.length ≤ 1000000000000000000) : Does Tryz.prog 93 #[.agg [.int .i64 p.r, .int .i64 p.n].toArray, .int .i64 first, .slice A l.length k] w0 (fun r w' => ∃ (v : Value) (e : Int), r = .tuple #[v, .int .i64 e] ∧ Ans (ldOk p first l) e ∧ Hp w0 w' [] []) := by
 refine does_of Tryz.func93 Tryz.ntmps93 rfl<|cR e82 ?_
 have H := Hp.refl w0
 obtain ⟨ps, hp, hr, ha, h2⟩ := hl
 have hlen := h2.len
 refine Rq<|ops_box rfl rfl H<|fun w1 gp H1 _=>Xa rfl<|Xa rfl<|Xr e82<|J1<|Rq<|Xm rfl<|OT (ex_lss rfl rfl) (fun hp13 => ?_) (fun hp13 => ?_)
 refine Xm rfl<|cOp e82<|OZ rfl<|OZ rfl<|Xt rfl rfl<|Xm rfl<|cOp e82<|OZ rfl<|OZ rfl<|cOp e82<|OZ rfl<|OZ rfl<|cOp e82<|OZ rfl<|OZ rfl<|cOp e82<|OZ rfl<|OZ rfl<|Xt rfl rfl<|Xr e82<|J3 rfl<|Rq<|Xa rfl<|Xa rfl<|Xr e82<|J5<|FN2 rfl rfl rfl<|⟨_, _, rfl, Ans.no (ld_f1 (by omega)), H1.noRows⟩
 refine Xm rfl<|cOp e82<|OY rfl<|Xm rfl<|OY rfl<|OT (ex_gtr rfl rfl) (fun hp16 => ?_) (fun hp16 => ?_)
 refine Xu rfl rfl<|Xm rfl<|cOp e82<|OZ rfl<|OZ rfl<|cOp e82<|OZ rfl<|OZ rfl<|cOp e82<|OZ rfl<|OZ rfl<|cOp e82<|OZ rfl<|OZ rfl<|Xt rfl rfl<|Xr e82<|J3 rfl<|Rq<|Xa rfl<|Xa rfl<|Xr e82<|J5<|FN2 rfl rfl rfl<|⟨_, _, rfl, Ans.no (ld_f1 (by omega)), H1.noRows⟩
 refine Xu rfl rfl<|Xm rfl<|cOp e82<|OY rfl<|OV (EN ty36 rfl (vs := [.int .i64 p.r, .int .i64 p.n]) rfl (H1.cellsR (i := 0) rfl rfl))<|OY rfl<|OV (EB ty36 pl36 rfl rfl)<|cOp e82<|OY rfl<|OT (ex_neq_bal rfl rfl) (fun hp21 => ?_) (fun hp21 => ?_)
 refine OY rfl<|Xm rfl<|OY rfl<|OV (EN ty36 rfl (vs := [.int .i64 p.r, .int .i64 p.n]) rfl (H1.cellsR (i := 0) rfl rfl))<|cOp e82<|OY rfl<|OX (EC gf107 rfl) (real_a _ _) (fun hp24 w2 Hd => ?_) (fun hp24 w2 Hd => ?_)
 have H2 := H1.callN Hd
 refine OY rfl<|Xn rfl<|OY rfl<|Xt rfl rfl<|Xu rfl rfl<|Xr e82<|J4 rfl<|J6<|Rq<|OV (EN ty36 rfl (vs := [.int .i64 p.r, .int .i64 p.n]) rfl (H2.cellsR (i := 0) rfl rfl))<|Xm rfl<|ops_makeMap H2<|fun w3 gm H3 hgm hgm0=>have hIM:=IntMap.new hgm;?_
 have hgmw : w0.heap.size ≤ gm := by have := H2.size; omega
 refine OV (EB ty141 pl141 rfl rfl)<|cOp e82 ?_
 have HB := H3
 have H3 := HB.here
 refine ops_box rfl rfl H3<|fun w4 ga H4 _=>?_
 have hIM := hIM.to H4 (fun hb => by obtain ⟨arr, T, z, hh⟩ := bl_cells HB gm hb; exact hIM.not _ _ _ hh)
 replace H4 := HB.all H4
 refine Xa rfl<|Xr e82<|Rq<|Xm rfl<|Xa rfl<|Xr e82<|J1<|Rq<|Xm rfl<|OV (ES Tryz.underlying54 rfl)<|Xm rfl<|Xr e82<|J7<|run_loop (fun nQ lQ w => ∃ (i : Nat) (y m : Int), l.length - i = nQ ∧ Fits [some (.agg [.int .i64 p.r, .int .i64 p.n].toArray), some (.int .i64 first), none, some (.pointer (some ⟨gp, 0, none⟩)), none, none, none, none, some (.pointer (some ⟨ga, 0, none⟩)), some (.int .i64 m), none, none, none, none, none, none, none, none, none, none, none, none, none, none, none, none, none, none, none, none, none, none, none, none, some (.slice A l.length k), some (.int .i64 (l.length : Int)), some (.int .i64 y), none, none, none, none, none, none, none, none, none, none, none, none, none, none, none, none, none, none, none, none, none, none, none, none, none, none, none, none, none, none, none, none, none, none, none, none, none, none, none, none, none, none, none, none, none] lQ ∧ y = (i : Int) ∧ i ≤ l.length ∧ vtsOk p first first l = vtsOk p first m (l.drop i) ∧ first ≤ m ∧ IntMap w gm ∧ Hp w0 w [] [((some gp, 36, [.int .i64 p.r, .int .i64 p.n]) : Ent), (some ga, 141, [.int .i64 p.r, .int .i64 p.n, .int .i64 first, .map (some gm)])]) (l.length) ?_ ?_
 exact ⟨0, _, first, rfl, (fs (fs (fn (fs (fn (fn (fn (fn (fs (fs (fn (fn (fn (fn (fn (fn (fn (fn (fn (fn (fn (fn (fn (fn (fn (fn (fn (fn (fn (fn (fn (fn (fn (fn (fs (fs (fs (fn (fn (fn (fn (fn (fn (fn (fn (fn (fn (fn (fn (fn (fn (fn (fn (fn (fn (fn (fn (fn (fn (fn (fn (fn (fn (fn (fn (fn (fn (fn (fn (fn (fn (fn (fn (fn (fn (fn (fn (fn (fn (fn (fn (fn f0)))))))))))))))))))))))))))))))))))))))))))))))))))))))))))))))))))))))))))))))))), rfl, Nat.zero_le _, rfl, Int.le_refl _, hIM, H4⟩
 rintro nQ lQ w5 ⟨i, y, m, rfl, hfit, rfl, hi, hinv, hfm, hIM, H5⟩
 obtain ⟨j, rfl⟩ := hfit.open
 refine cR e82 ?_
 clear hfit
 have HB := H5
 replace H5 := HB.here
 have hgmn : gm ∉ bl _ := fun hb => by obtain ⟨arr, T, z, hh⟩ := bl_cells HB gm hb; exact hIM.not _ _ _ hh
 refine Rq<|OT (ex_lss rfl rfl) (fun hp37 => ?_) (fun hp37 => ?_)
 have hil : i < l.length := by omega
 obtain ⟨x, hx⟩ := get_of hil
 obtain ⟨p1, hp1, hR⟩ := h2.get hx
 obtain ⟨Ax, kx, rfl, hbx⟩ := hR
 obtain ⟨a1, ha1⟩ := hr.some_ (by omega)
 subst ha1
 refine Xr e82<|J1<|J3 rfl<|J6<|J1<|J7<|Rq<|OV (EI Tryz.underlying54 ty39 rfl rfl rfl hil rfl)<|OV (EN ty39 rfl (vs := [.int .i64 x.slot, .int .i64 x.b.r, .int .i64 x.b.n, .slice Ax x.val.length kx]) rfl ((hr.to0 (HB.all H5)).elem hp hp1))<|OA ty39 H5<|fun w6 g6 H6 hg6=>OS ty39 H6 2 rfl rfl rfl rfl rfl (by first | decide | (simp; done) | simp [putAt]) rfl<|fun w7 H7=>Xr e82<|J1<|Rq<|Xf fl39_0 rfl<|OV (EL ty3 rfl (H7.cell (i := 2) rfl rfl))<|Xm rfl<|OT (ex_lss rfl rfl) (fun hp43 => ?_) (fun hp43 => ?_)
 refine Xm rfl<|cOp e82<|OZ rfl<|OZ rfl<|cOp e82<|OZ rfl<|OZ rfl<|cOp e82<|OZ rfl<|Xt rfl rfl<|Xm rfl<|cOp e82<|OZ rfl<|OZ rfl<|cOp e82<|OZ rfl<|OZ rfl<|Xt rfl rfl<|Xm rfl<|cOp e82<|OZ rfl<|OZ rfl<|cOp e82<|OZ rfl<|OZ rfl<|Xt rfl rfl<|Xm rfl<|cOp e82<|OZ rfl<|OZ rfl<|cOp e82<|OZ rfl<|OZ rfl<|Xt rfl rfl<|Xr e82<|J3 rfl<|Rq<|Xa rfl ?_
 refine Xa rfl<|Xr e82<|J5<|BR<|rnd_ret<|BR<|FN2 rfl rfl rfl<|⟨_, _, rfl, Ans.no (by rw [ld_v (by omega) (by omega), hinv]; exact vts_no hx fun hh => by omega), (HB.all H7).noRows⟩
 refine Xm rfl<|cOp e82<|OY rfl<|Xf fl39_0 rfl<|OY rfl<|OV (EL ty3 rfl (H7.cell (i := 2) rfl rfl))<|cOp e82<|OY rfl<|Xm rfl<|OY rfl<|OV (ex_add rfl rfl (IntWalk.i64_in _ (by omega)))<|cOp e82<|OY rfl<|OT (ex_geq rfl rfl) (fun hp49 => ?_) (fun hp49 => ?_)
 refine Xu rfl rfl<|Xm rfl<|cOp e82<|OZ rfl<|OZ rfl<|cOp e82<|OZ rfl<|OZ rfl<|Xt rfl rfl<|Xm rfl<|cOp e82<|OZ rfl<|OZ rfl<|cOp e82<|OZ rfl<|OZ rfl<|Xt rfl rfl<|Xm rfl<|cOp e82<|OZ rfl<|OZ rfl<|cOp e82<|OZ rfl<|OZ rfl<|Xt rfl rfl<|Xr e82<|J3 rfl<|Rq<|Xa rfl<|Xa rfl<|Xr e82<|J5<|BR<|rnd_ret<|BR<|FN2 rfl rfl rfl<|⟨_, _, rfl, Ans.no (by rw [ld_v (by omega) (by omega), hinv]; exact vts_no hx fun hh => by omega), (HB.all H7).noRows⟩
 refine Xu rfl rfl<|Xm rfl<|cOp e82<|OY rfl<|Xf fl39_1 rfl<|OY rfl<|OV (EN ty36 rfl (vs := [.int .i64 x.b.r, .int .i64 x.b.n]) rfl (H7.cellsR (i := 2) rfl rfl))<|cOp e82<|OY rfl<|OX (EC gf107 rfl) (real_a _ _) (fun hp54 w8 Hd => ?_) (fun hp54 w8 Hd => ?_)
 have H8 := H7.callN Hd
 refine OY rfl<|Xn rfl<|Xu rfl rfl<|Xm rfl<|cOp e82<|OY rfl<|OV (EN ty36 rfl (vs := [.int .i64 p.r, .int .i64 p.n]) rfl (H8.cellsR (i := 0) rfl rfl))<|OY rfl<|Xf fl39_1 rfl<|cOp e82<|OY rfl<|OV (EN ty36 rfl (vs := [.int .i64 x.b.r, .int .i64 x.b.n]) rfl (H8.cellsR (i := 2) rfl rfl))<|OY rfl<|OX (EC gf84 rfl) (less_b _ _ _) (fun hp61 w9 Hd => ?_) (fun hp61 w9 Hd => ?_)
 have H9 := H8.callN Hd
 refine Xu rfl rfl<|Xm rfl<|cOp e82<|OZ rfl<|OZ rfl<|cOp e82<|OZ rfl<|OZ rfl<|Xt rfl rfl<|Xr e82<|J3 rfl<|Rq<|Xa rfl<|Xa rfl<|Xr e82<|J5<|BR<|rnd_ret<|BR<|FN2 rfl rfl rfl<|⟨_, _, rfl, Ans.no (by rw [ld_v (by omega) (by omega), hinv]; exact vts_no hx fun hh => hh.2.2.2.2.1 hp61), (HB.all H9).noRows⟩
 have H9 := H8.callN Hd
 refine Xu rfl rfl<|Xm rfl<|cOp e82<|OY rfl<|Xf fl39_2 rfl<|OY rfl<|OV (EL ty37 rfl (H9.cell (i := 2) rfl rfl))<|cOp e82<|OY rfl<|OV (ES Tryz.underlying37 rfl)<|OY rfl<|OT (ex_gtr rfl rfl) (fun hp67 => ?_) (fun hp67 => ?_)
 refine Xu rfl rfl<|Xr e82<|J3 rfl<|Rq<|Xa rfl<|Xa rfl<|Xr e82<|J5<|BR<|rnd_ret<|BR<|FN2 rfl rfl rfl<|⟨_, _, rfl, Ans.no (by rw [ld_v (by omega) (by omega), hinv]; exact vts_no hx fun hh => by omega), (HB.all H9).noRows⟩
 refine Xu rfl rfl<|Xr e82<|J4 rfl<|J6<|J1<|run_mixZ 8 [(true, 0), (true, 1), (true, 2), (true, 3), (true, 4), (true, 5), (true, 6), (false, 7), (false, 8)] H9 [0, 1, 2] mixed (by decide) (by kernel_rfl) ?_
 rintro w10 hw10
 have H10 := Hp.drew H9; rw [← hw10] at H10
 refine Zm rfl rfl<|Zc rfl rfl<|Zf rfl fl141_2 rfl<|MP rfl<|MV (fun wz hz => EL ty139 rfl (hz.cell (i := 1) rfl rfl))<|cZ e82<|Zf rfl fl39_0 rfl<|MP rfl<|MV (fun wz hz => EL ty3 rfl (hz.cell (i := 2) rfl rfl))<|MP rfl<|MV (fun wz hz => EN ty39 rfl (vs := [.int .i64 x.slot, .int .i64 x.b.r, .int .i64 x.b.n, .slice Ax x.val.length kx]) rfl (hz.cellsR (i := 2) rfl rfl))<|MO rfl<|OQ (EC gf108 rfl) (copied_a x Ax kx (fun _ => True) _ (hbx.to (HB.all H10) (fun _ _ _ => ⟨by simp, trivial⟩)))<|fun r w11 Hd=>have H11:=H10.callN Hd;OE<|⟨fun hne => H11.pick [0, 1, 2] (by decide), ?_⟩
 refine cZ e82<|MO rfl ?_
 have HW := HB.all H11
 refine ops_mapUpdate Tryz.underlying139 Tryz.underlying3 HW rfl rfl rfl (hIM.to H11 hgmn) hgmw<|fun w12 H12 hIM _=>?_
 have hgo := vts_go (p := p) (first := first) (m := m) hx ⟨by omega, by omega, hp54.1, hp54.2, hp61, by omega⟩
 refine OE ?_
 refine ⟨fun hne => absurd rfl hne, ?_⟩
 refine cZ e82<|ME<|cR e82<|J2<|Xf fl39_0 rfl<|OV (EL ty3 rfl (H12.cell (i := 2) rfl rfl))<|OV (ex_add rfl rfl (IntWalk.i64_in _ (by omega)))<|Xa rfl<|Xr e82<|run_nil (blk_normal ?_)
 refine J2<|OV (ex_add rfl rfl (IntWalk.i64_in _ (by omega)))<|Xm rfl<|Xr e82<|run_nil (rnd_normal ?_)
 exact ⟨l.length - (i + 1), by omega, i + 1, _, x.slot + 1, rfl, (fs (fs (fn (fs (fn (fn (fn (fn (fs (fs (fn (fn (fn (fn (fn (fn (fn (fn (fn (fn (fn (fn (fn (fn (fn (fn (fn (fn (fn (fn (fn (fn (fn (fn (fs (fs (fs (fn (fn (fn (fn (fn (fn (fn (fn (fn (fn (fn (fn (fn (fn (fn (fn (fn (fn (fn (fn (fn (fn (fn (fn (fn (fn (fn (fn (fn (fn (fn (fn (fn (fn (fn (fn (fn (fn (fn (fn (fn (fn (fn (fn (fn f0)))))))))))))))))))))))))))))))))))))))))))))))))))))))))))))))))))))))))))))))))), by omega, by omega, by rw [hinv, hgo], by omega, hIM, H12.pick [0, 1] (by decide)⟩
 have H8 := H7.callN Hd
 refine OY rfl<|Xn rfl<|Xu rfl rfl<|Xm rfl<|cOp e82<|OZ rfl<|OZ rfl<|cOp e82<|OZ rfl<|OZ rfl<|Xt rfl rfl<|Xm rfl<|cOp e82<|OZ rfl<|OZ rfl<|cOp e82<|OZ rfl<|OZ rfl<|Xt rfl rfl<|Xr e82<|J3 rfl<|Rq<|Xa rfl<|Xa rfl<|Xr e82<|J5<|BR<|rnd_ret<|BR<|FN2 rfl rfl rfl<|⟨_, _, rfl, Ans.no (by rw [ld_v (by omega) (by omega), hinv]; exact vts_no hx fun hh => hp54 ⟨hh.2.2.1, hh.2.2.2.1⟩), (HB.all H8).noRows⟩
 obtain rfl : i = l.length := by omega
 refine Xr e82<|J1<|J4 rfl<|J8<|rnd_exit<|blk_exit<|Rq<|Xm rfl<|Xa rfl<|Xa rfl<|Xr e82<|J5<|FN2 rfl rfl rfl<|⟨_, _, rfl, Ans.ok (by rw [ld_v (by omega) (by omega), hinv]; exact vts_end), (HB.all H5).noRows⟩
 have H2 := H1.callN Hd
 refine OY rfl<|Xn rfl<|OY rfl<|Xt rfl rfl<|Xu rfl rfl<|Xr e82<|J3 rfl<|Rq<|Xa rfl<|Xa rfl<|Xr e82<|J5<|FN2 rfl rfl rfl<|⟨_, _, rfl, Ans.no (ld_f2 (by omega)), H2.noRows⟩
 refine OY rfl<|Xm rfl<|OZ rfl<|cOp e82<|OZ rfl<|OZ rfl<|cOp e82<|OY rfl<|Xu rfl rfl<|Xu rfl rfl<|Xr e82<|J4 rfl<|J6<|Rq<|OV (EN ty36 rfl (vs := [.int .i64 p.r, .int .i64 p.n]) rfl (H1.cellsR (i := 0) rfl rfl))<|Xm rfl<|ops_makeMap H1<|fun w2 gm H2 hgm hgm0=>have hIM:=IntMap.new hgm;?_
 have hgmw : w0.heap.size ≤ gm := by have := H1.size; omega
 refine OV (EB ty141 pl141 rfl rfl)<|cOp e82 ?_
 have HB := H2
 have H2 := HB.here
 refine ops_box rfl rfl H2<|fun w3 ga H3 _=>?_
 have hIM := hIM.to H3 (fun hb => by obtain ⟨arr, T, z, hh⟩ := bl_cells HB gm hb; exact hIM.not _ _ _ hh)
 replace H3 := HB.all H3
 refine Xa rfl<|Xr e82<|Rq<|Xm rfl<|Xa rfl<|Xr e82<|J1<|Rq<|Xm rfl<|OV (ES Tryz.underlying54 rfl)<|Xm rfl<|Xr e82<|J7<|run_loop (fun nQ lQ w => ∃ (i : Nat) (y m : Int), l.length - i = nQ ∧ Fits [some (.agg [.int .i64 p.r, .int .i64 p.n].toArray), some (.int .i64 first), none, some (.pointer (some ⟨gp, 0, none⟩)), none, none, none, none, some (.pointer (some ⟨ga, 0, none⟩)), some (.int .i64 m), none, none, none, none, none, none, none, none, none, none, none, none, none, none, none, none, none, none, none, none, none, none, none, none, some (.slice A l.length k), some (.int .i64 (l.length : Int)), some (.int .i64 y), none, none, none, none, none, none, none, none, none, none, none, none, none, none, none, none, none, none, none, none, none, none, none, none, none, none, none, none, none, none, none, none, none, none, none, none, none, none, none, none, none, none, none, none, none] lQ ∧ y = (i : Int) ∧ i ≤ l.length ∧ vtsOk p first first l = vtsOk p first m (l.drop i) ∧ first ≤ m ∧ IntMap w gm ∧ Hp w0 w [] [((some gp, 36, [.int .i64 p.r, .int .i64 p.n]) : Ent), (some ga, 141, [.int .i64 p.r, .int .i64 p.n, .int .i64 first, .map (some gm)])]) (l.length) ?_ ?_
 exact ⟨0, _, first, rfl, (fs (fs (fn (fs (fn (fn (fn (fn (fs (fs (fn (fn (fn (fn (fn (fn (fn (fn (fn (fn (fn (fn (fn (fn (fn (fn (fn (fn (fn (fn (fn (fn (fn (fn (fs (fs (fs (fn (fn (fn (fn (fn (fn (fn (fn (fn (fn (fn (fn (fn (fn (fn (fn (fn (fn (fn (fn (fn (fn (fn (fn (fn (fn (fn (fn (fn (fn (fn (fn (fn (fn (fn (fn (fn (fn (fn (fn (fn (fn (fn (fn (fn f0)))))))))))))))))))))))))))))))))))))))))))))))))))))))))))))))))))))))))))))))))), rfl, Nat.zero_le _, rfl, Int.le_refl _, hIM, H3⟩
 rintro nQ lQ w4 ⟨i, y, m, rfl, hfit, rfl, hi, hinv, hfm, hIM, H4⟩
 obtain ⟨j, rfl⟩ := hfit.open
 refine cR e82 ?_
 clear hfit
 have HB := H4
 replace H4 := HB.here
 have hgmn : gm ∉ bl _ := fun hb => by obtain ⟨arr, T, z, hh⟩ := bl_cells HB gm hb; exact hIM.not _ _ _ hh
 refine Rq<|OT (ex_lss rfl rfl) (fun hp37 => ?_) (fun hp37 => ?_)
 have hil : i < l.length := by omega
 obtain ⟨x, hx⟩ := get_of hil
 obtain ⟨p1, hp1, hR⟩ := h2.get hx
 obtain ⟨Ax, kx, rfl, hbx⟩ := hR
 obtain ⟨a1, ha1⟩ := hr.some_ (by omega)
 subst ha1
 refine Xr e82<|J1<|J3 rfl<|J6<|J1<|J7<|Rq<|OV (EI Tryz.underlying54 ty39 rfl rfl rfl hil rfl)<|OV (EN ty39 rfl (vs := [.int .i64 x.slot, .int .i64 x.b.r, .int .i64 x.b.n, .slice Ax x.val.length kx]) rfl ((hr.to0 (HB.all H4)).elem hp hp1))<|OA ty39 H4<|fun w5 g5 H5 hg5=>OS ty39 H5 2 rfl rfl rfl rfl rfl (by first | decide | (simp; done) | simp [putAt]) rfl<|fun w6 H6=>Xr e82<|J1<|Rq<|Xf fl39_0 rfl<|OV (EL ty3 rfl (H6.cell (i := 2) rfl rfl))<|Xm rfl<|OT (ex_lss rfl rfl) (fun hp43 => ?_) (fun hp43 => ?_)
 refine Xm rfl<|cOp e82<|OZ rfl<|OZ rfl<|cOp e82<|OZ rfl<|OZ rfl<|cOp e82<|OZ rfl<|Xt rfl rfl<|Xm rfl<|cOp e82<|OZ rfl<|OZ rfl<|cOp e82<|OZ rfl<|OZ rfl<|Xt rfl rfl<|Xm rfl<|cOp e82<|OZ rfl<|OZ rfl<|cOp e82<|OZ rfl<|OZ rfl<|Xt rfl rfl<|Xm rfl<|cOp e82<|OZ rfl<|OZ rfl<|cOp e82<|OZ rfl<|OZ rfl<|Xt rfl rfl<|Xr e82<|J3 rfl<|Rq<|Xa rfl ?_
 refine Xa rfl<|Xr e82<|J5<|BR<|rnd_ret<|BR<|FN2 rfl rfl rfl<|⟨_, _, rfl, Ans.no (by rw [ld_v (by omega) (by omega), hinv]; exact vts_no hx fun hh => by omega), (HB.all H6).noRows⟩
 refine Xm rfl<|cOp e82<|OY rfl<|Xf fl39_0 rfl<|OY rfl<|OV (EL ty3 rfl (H6.cell (i := 2) rfl rfl))<|cOp e82<|OY rfl<|Xm rfl<|OY rfl<|OV (ex_add rfl rfl (IntWalk.i64_in _ (by omega)))<|cOp e82<|OY rfl<|OT (ex_geq rfl rfl) (fun hp49 => ?_) (fun hp49 => ?_)
 refine Xu rfl rfl<|Xm rfl<|cOp e82<|OZ rfl<|OZ rfl<|cOp e82<|OZ rfl<|OZ rfl<|Xt rfl rfl<|Xm rfl<|cOp e82<|OZ rfl<|OZ rfl<|cOp e82<|OZ rfl<|OZ rfl<|Xt rfl rfl<|Xm rfl<|cOp e82<|OZ rfl<|OZ rfl<|cOp e82<|OZ rfl<|OZ rfl<|Xt rfl rfl<|Xr e82<|J3 rfl<|Rq<|Xa rfl<|Xa rfl<|Xr e82<|J5<|BR<|rnd_ret<|BR<|FN2 rfl rfl rfl<|⟨_, _, rfl, Ans.no (by rw [ld_v (by omega) (by omega), hinv]; exact vts_no hx fun hh => by omega), (HB.all H6).noRows⟩
 refine Xu rfl rfl<|Xm rfl<|cOp e82<|OY rfl<|Xf fl39_1 rfl<|OY rfl<|OV (EN ty36 rfl (vs := [.int .i64 x.b.r, .int .i64 x.b.n]) rfl (H6.cellsR (i := 2) rfl rfl))<|cOp e82<|OY rfl<|OX (EC gf107 rfl) (real_a _ _) (fun hp54 w7 Hd => ?_) (fun hp54 w7 Hd => ?_)
 have H7 := H6.callN Hd
 refine OY rfl<|Xn rfl<|Xu rfl rfl<|Xm rfl<|cOp e82<|OY rfl<|OV (EN ty36 rfl (vs := [.int .i64 p.r, .int .i64 p.n]) rfl (H7.cellsR (i := 0) rfl rfl))<|OY rfl<|Xf fl39_1 rfl<|cOp e82<|OY rfl<|OV (EN ty36 rfl (vs := [.int .i64 x.b.r, .int .i64 x.b.n]) rfl (H7.cellsR (i := 2) rfl rfl))<|OY rfl<|OX (EC gf84 rfl) (less_b _ _ _) (fun hp61 w8 Hd => ?_) (fun hp61 w8 Hd => ?_)
 have H8 := H7.callN Hd
 refine Xu rfl rfl<|Xm rfl<|cOp e82<|OZ rfl<|OZ rfl<|cOp e82<|OZ rfl<|OZ rfl<|Xt rfl rfl<|Xr e82<|J3 rfl<|Rq<|Xa rfl<|Xa rfl<|Xr e82<|J5<|BR<|rnd_ret<|BR<|FN2 rfl rfl rfl<|⟨_, _, rfl, Ans.no (by rw [ld_v (by omega) (by omega), hinv]; exact vts_no hx fun hh => hh.2.2.2.2.1 hp61), (HB.all H8).noRows⟩
 have H8 := H7.callN Hd
 refine Xu rfl rfl<|Xm rfl<|cOp e82<|OY rfl<|Xf fl39_2 rfl<|OY rfl<|OV (EL ty37 rfl (H8.cell (i := 2) rfl rfl))<|cOp e82<|OY rfl<|OV (ES Tryz.underlying37 rfl)<|OY rfl<|OT (ex_gtr rfl rfl) (fun hp67 => ?_) (fun hp67 => ?_)
 refine Xu rfl rfl<|Xr e82<|J3 rfl<|Rq<|Xa rfl<|Xa rfl<|Xr e82<|J5<|BR<|rnd_ret<|BR<|FN2 rfl rfl rfl<|⟨_, _, rfl, Ans.no (by rw [ld_v (by omega) (by omega), hinv]; exact vts_no hx fun hh => by omega), (HB.all H8).noRows⟩
 refine Xu rfl rfl<|Xr e82<|J4 rfl<|J6<|J1<|run_mixZ 8 [(true, 0), (true, 1), (true, 2), (true, 3), (true, 4), (true, 5), (true, 6), (false, 7), (false, 8)] H8 [0, 1, 2] mixed (by decide) (by kernel_rfl) ?_
 rintro w9 hw9
 have H9 := Hp.drew H8; rw [← hw9] at H9
 refine Zm rfl rfl<|Zc rfl rfl<|Zf rfl fl141_2 rfl<|MP rfl<|MV (fun wz hz => EL ty139 rfl (hz.cell (i := 1) rfl rfl))<|cZ e82<|Zf rfl fl39_0 rfl<|MP rfl<|MV (fun wz hz => EL ty3 rfl (hz.cell (i := 2) rfl rfl))<|MP rfl<|MV (fun wz hz => EN ty39 rfl (vs := [.int .i64 x.slot, .int .i64 x.b.r, .int .i64 x.b.n, .slice Ax x.val.length kx]) rfl (hz.cellsR (i := 2) rfl rfl))<|MO rfl<|OQ (EC gf108 rfl) (copied_a x Ax kx (fun _ => True) _ (hbx.to (HB.all H9) (fun _ _ _ => ⟨by simp, trivial⟩)))<|fun r w10 Hd=>have H10:=H9.callN Hd;OE<|⟨fun hne => H10.pick [0, 1, 2] (by decide), ?_⟩
 refine cZ e82<|MO rfl ?_
 have HW := HB.all H10
 refine ops_mapUpdate Tryz.underlying139 Tryz.underlying3 HW rfl rfl rfl (hIM.to H10 hgmn) hgmw<|fun w11 H11 hIM _=>?_
 have hgo := vts_go (p := p) (first := first) (m := m) hx ⟨by omega, by omega, hp54.1, hp54.2, hp61, by omega⟩
 refine OE ?_
 refine ⟨fun hne => absurd rfl hne, ?_⟩
 refine cZ e82<|ME<|cR e82<|J2<|Xf fl39_0 rfl<|OV (EL ty3 rfl (H11.cell (i := 2) rfl rfl))<|OV (ex_add rfl rfl (IntWalk.i64_in _ (by omega)))<|Xa rfl<|Xr e82<|run_nil (blk_normal ?_)
 refine J2<|OV (ex_add rfl rfl (IntWalk.i64_in _ (by omega)))<|Xm rfl<|Xr e82<|run_nil (rnd_normal ?_)
 exact ⟨l.length - (i + 1), by omega, i + 1, _, x.slot + 1, rfl, (fs (fs (fn (fs (fn (fn (fn (fn (fs (fs (fn (fn (fn (fn (fn (fn (fn (fn (fn (fn (fn (fn (fn (fn (fn (fn (fn (fn (fn (fn (fn (fn (fn (fn (fs (fs (fs (fn (fn (fn (fn (fn (fn (fn (fn (fn (fn (fn (fn (fn (fn (fn (fn (fn (fn (fn (fn (fn (fn (fn (fn (fn (fn (fn (fn (fn (fn (fn (fn (fn (fn (fn (fn (fn (fn (fn (fn (fn (fn (fn (fn (fn f0)))))))))))))))))))))))))))))))))))))))))))))))))))))))))))))))))))))))))))))))))), by omega, by omega, by rw [hinv, hgo], by omega, hIM, H11.pick [0, 1] (by decide)⟩
 have H7 := H6.callN Hd
 refine OY rfl<|Xn rfl<|Xu rfl rfl<|Xm rfl<|cOp e82<|OZ rfl<|OZ rfl<|cOp e82<|OZ rfl<|OZ rfl<|Xt rfl rfl<|Xm rfl<|cOp e82<|OZ rfl<|OZ rfl<|cOp e82<|OZ rfl<|OZ rfl<|Xt rfl rfl<|Xr e82<|J3 rfl<|Rq<|Xa rfl<|Xa rfl<|Xr e82<|J5<|BR<|rnd_ret<|BR<|FN2 rfl rfl rfl<|⟨_, _, rfl, Ans.no (by rw [ld_v (by omega) (by omega), hinv]; exact vts_no hx fun hh => hp54 ⟨hh.2.2.1, hh.2.2.2.1⟩), (HB.all H7).noRows⟩
 obtain rfl : i = l.length := by omega
 refine Xr e82<|J1<|J4 rfl<|J8<|rnd_exit<|blk_exit<|Rq<|Xm rfl<|Xa rfl<|Xa rfl<|Xr e82<|J5<|FN2 rfl rfl rfl<|⟨_, _, rfl, Ans.ok (by rw [ld_v (by omega) (by omega), hinv]; exact vts_end), (HB.all H4).noRows⟩
set_option maxRecDepth 100000 in
set_option maxHeartbeats 16000000 in
theorem load_p (s : Sv) (A1 : Option Addr) (k1 : Nat) (A2 : Option Addr) (k2 : Nat) (A3 : Option Addr) (k3 : Nat) (ok : Nat → Prop) (w0 : World) (hv1 : Sl (VtR w0 ok) 4 w0 ok A1 s.votes) (hv2 : Bs w0 ok A2 s.image) (hv3 : Sl (EnR w0 ok) 2 w0 ok A3 s.entries) (hvl : s.votes.length ≤ 1000000000000000000) (hel2 : s.entries.length ≤ 1000000000000000000) : Does Tryz.prog 65 #[.int .i64 1, .int .i64 5, .agg [.int .i64 s.p.r, .int .i64 s.p.n, .slice A1 s.votes.length k1, .int .i64 s.index, .slice A2 s.image.length k2, .slice A3 s.entries.length k3].toArray] w0 (fun r w' => ∃ (v : Value) (e : Int), r = .tuple #[v, .int .i64 e] ∧ Ans (chk s) e ∧ Hp w0 w' [] []) := by
 refine does_of Tryz.func65 Tryz.ntmps65 rfl<|cR e115 ?_
 have H := Hp.refl w0
 obtain ⟨pe, hpe, hre, hae, he2⟩ := id hv3
 have hel := he2.len
 refine Rq<|ops_box rfl rfl H<|fun w1 gs H1 _=>Xa rfl<|Xa rfl<|Xr e115<|J1<|Rq<|Xm rfl<|OT1 (ex_neq rfl rfl) (by decide)<|Xm rfl<|cOp e115<|OY rfl<|Xm rfl<|OY rfl<|OT1 (ex_neq rfl rfl) (by decide)<|Xt rfl rfl<|Xm rfl<|cOp e115<|OY rfl<|Xm rfl<|OY rfl<|OT0 (ex_neq rfl rfl) (by decide)<|Xt rfl rfl<|Xm rfl<|cOp e115<|OY rfl<|Xm rfl<|OY rfl<|OT0 (ex_lss rfl rfl) (by decide)<|Xu rfl rfl<|Xm rfl<|cOp e115<|OY rfl<|Xm rfl<|OY rfl<|Xm rfl ?_
 refine cOp e115<|OY rfl<|OT0 (ex_gtr rfl rfl) (by decide)<|Xu rfl rfl<|Xr e115<|J4 rfl<|J6<|J1<|Rq<|Xf fl57_0 rfl<|OV (EN ty36 rfl (vs := [.int .i64 s.p.r, .int .i64 s.p.n]) rfl (H1.cellsR (i := 0) rfl rfl))<|OV (EB ty36 pl36 rfl rfl)<|OT (ex_neq_bal rfl rfl) (fun hp34 => ?_) (fun hp34 => ?_)
 refine Xm rfl<|cOp e115<|OY rfl<|Xf fl57_0 rfl<|OY rfl<|OV (EN ty36 rfl (vs := [.int .i64 s.p.r, .int .i64 s.p.n]) rfl (H1.cellsR (i := 0) rfl rfl))<|cOp e115<|OY rfl<|Xm rfl<|OY rfl<|OX (EC gf92 rfl) (may_b _ _ _) (fun hp39 w2 Hd => ?_) (fun hp39 w2 Hd => ?_)
 have H2 := H1.callN Hd
 refine OY rfl<|Xn rfl<|Xt rfl rfl<|Xm rfl<|cOp e115<|OY rfl<|Xf fl57_2 rfl<|OY rfl<|OV (EL ty3 rfl (H2.cell (i := 0) rfl rfl))<|cOp e115<|OY rfl<|OT (ex_lss rfl rfl) (fun hp45 => ?_) (fun hp45 => ?_)
 refine Xu rfl rfl<|Xm rfl<|cOp e115<|OZ rfl<|OZ rfl<|cOp e115<|OZ rfl<|Xt rfl rfl<|Xm rfl<|cOp e115<|OZ rfl<|OZ rfl<|cOp e115<|OZ rfl<|OZ rfl<|cOp e115<|OZ rfl<|OZ rfl<|cOp e115<|OZ rfl<|OZ rfl<|cOp e115<|OZ rfl<|Xt rfl rfl<|Xm rfl<|cOp e115<|OZ rfl<|OZ rfl<|cOp e115<|OZ rfl<|OZ rfl<|Xt rfl rfl<|Xr e115<|J3 rfl<|Rq<|Xa rfl<|Xa rfl<|OE ?_
 refine cR e115<|J5<|FN2 rfl rfl rfl<|⟨_, _, rfl, Ans.no (chk_f2 (by omega)), H2.noRows⟩
 refine Xu rfl rfl<|Xm rfl<|cOp e115<|OY rfl<|Xf fl57_2 rfl<|OY rfl<|OV (EL ty3 rfl (H2.cell (i := 0) rfl rfl))<|cOp e115<|OY rfl<|OT (ex_gtr rfl rfl) (fun hp50 => ?_) (fun hp50 => ?_)
 refine Xu rfl rfl<|Xm rfl<|cOp e115<|OZ rfl<|OZ rfl<|cOp e115<|OZ rfl<|OZ rfl<|cOp e115<|OZ rfl<|OZ rfl<|cOp e115<|OZ rfl<|OZ rfl<|cOp e115<|OZ rfl<|Xt rfl rfl<|Xm rfl<|cOp e115<|OZ rfl<|OZ rfl<|cOp e115<|OZ rfl<|OZ rfl<|Xt rfl rfl<|Xr e115<|J3 rfl<|Rq<|Xa rfl<|Xa rfl<|Xr e115<|J5<|FN2 rfl rfl rfl<|⟨_, _, rfl, Ans.no (chk_f2 (by omega)), H2.noRows⟩
 refine Xu rfl rfl<|Xm rfl<|cOp e115<|OY rfl<|Xf fl57_2 rfl<|OY rfl<|OV (EL ty3 rfl (H2.cell (i := 0) rfl rfl))<|cOp e115<|OY rfl<|OT (ex_eql rfl rfl) (fun hp55 => ?_) (fun hp55 => ?_)
 refine OY rfl<|Xm rfl<|OY rfl<|Xf fl57_3 rfl<|cOp e115<|OY rfl<|OV (EL ty37 rfl (H2.cell (i := 0) rfl rfl))<|OY rfl<|OV (ES Tryz.underlying37 rfl)<|cOp e115<|OY rfl<|OT (ex_gtr rfl rfl) (fun hp60 => ?_) (fun hp60 => ?_)
 refine OY rfl<|Xt rfl rfl<|Xu rfl rfl<|Xm rfl<|cOp e115<|OZ rfl<|OZ rfl<|cOp e115<|OZ rfl<|OZ rfl<|Xt rfl rfl<|Xr e115<|J3 rfl<|Rq<|Xa rfl<|Xa rfl<|Xr e115<|J5<|FN2 rfl rfl rfl<|⟨_, _, rfl, Ans.no (chk_f2 (by omega)), H2.noRows⟩
 refine OY rfl<|Xt rfl rfl<|Xu rfl rfl<|Xm rfl<|cOp e115<|OY rfl<|Xf fl57_3 rfl<|OY rfl<|OV (EL ty37 rfl (H2.cell (i := 0) rfl rfl))<|cOp e115<|OY rfl<|OV (ES Tryz.underlying37 rfl)<|OY rfl<|OT (ex_gtr rfl rfl) (fun hp67 => ?_) (fun hp67 => ?_)
 refine Xu rfl rfl<|Xr e115<|J3 rfl<|Rq<|Xa rfl<|Xa rfl<|Xr e115<|J5<|FN2 rfl rfl rfl<|⟨_, _, rfl, Ans.no (chk_f2 (by omega)), H2.noRows⟩
 refine Xu rfl rfl<|Xr e115<|J4 rfl<|J6<|J1<|Rq<|Xf fl57_4 rfl<|OV (EL ty55 rfl (H2.cell (i := 0) rfl rfl))<|OV (ES Tryz.underlying55 rfl)<|Xm rfl<|Xr e115<|J7<|run_loop (fun nQ lQ w => ∃ (i : Nat) (y : Int), s.entries.length - i = nQ ∧ Fits [none, some (.int .i64 5), none, none, none, some (.pointer (some ⟨gs, 0, none⟩)), none, none, none, none, none, none, none, none, none, none, none, none, none, none, none, none, none, none, none, none, none, none, none, none, none, none, none, none, none, none, none, none, none, none, none, none, none, none, none, none, none, none, none, none, none, none, none, none, none, none, none, none, none, none, none, none, none, none, none, none, none, none, none, none, some (.slice A3 s.entries.length k3), some (.int .i64 (s.entries.length : Int)), some (.int .i64 y), none, none, none, none, none, none, none, none, none, none, none, none, none, none, none, none, none, none, none, none, none, none, none, none, none, none, none, none, none, none, none, none, none, none, none, none, none, none, none, none, none, none] lQ ∧ y = (i : Int) ∧ i ≤ s.entries.length ∧ entOk s.index s.entries = entOk (s.index + i) (s.entries.drop i) ∧ Hp w0 w [] [((some gs, 57, [.int .i64 s.p.r, .int .i64 s.p.n, .slice A1 s.votes.length k1, .int .i64 s.index, .slice A2 s.image.length k2, .slice A3 s.entries.length k3]) : Ent)]) (s.entries.length) ?_ ?_
 exact ⟨0, _, rfl, (fn (fs (fn (fn (fn (fs (fn (fn (fn (fn (fn (fn (fn (fn (fn (fn (fn (fn (fn (fn (fn (fn (fn (fn (fn (fn (fn (fn (fn (fn (fn (fn (fn (fn (fn (fn (fn (fn (fn (fn (fn (fn (fn (fn (fn (fn (fn (fn (fn (fn (fn (fn (fn (fn (fn (fn (fn (fn (fn (fn (fn (fn (fn (fn (fn (fn (fn (fn (fn (fn (fs (fs (fs (fn (fn (fn (fn (fn (fn (fn (fn (fn (fn (fn (fn (fn (fn (fn (fn (fn (fn (fn (fn (fn (fn (fn (fn (fn (fn (fn (fn (fn (fn (fn (fn (fn (fn (fn (fn (fn (fn (fn (fn (fn (fn f0))))))))))))))))))))))))))))))))))))))))))))))))))))))))))))))))))))))))))))))))))))))))))))))))))))))))))))))))))), rfl, Nat.zero_le _, by simp, H2⟩
 rintro nQ lQ w3 ⟨i, y, rfl, hfit, rfl, hi, hinv, H3⟩
 obtain ⟨j, rfl⟩ := hfit.open
 refine cR e115 ?_
 clear hfit
 refine Rq<|OT (ex_lss rfl rfl) (fun hp73 => ?_) (fun hp73 => ?_)
 have hil : i < s.entries.length := by omega
 obtain ⟨x, hx⟩ := get_of hil
 obtain ⟨p1, hp1, hR⟩ := he2.get hx
 obtain ⟨Ax, kx, rfl, hbx⟩ := hR
 obtain ⟨a1, ha1⟩ := hre.some_ (by omega)
 subst ha1
 refine Xr e115<|J1<|J3 rfl<|J6<|J1<|J7<|Rq<|Xm rfl<|OV (EI Tryz.underlying55 ty41 rfl rfl rfl hil rfl)<|OV (EN ty41 rfl (vs := [.int .i64 x.slot, .slice Ax x.val.length kx]) rfl ((hre.to0 H3).elem hpe hp1))<|OA ty41 H3<|fun w4 g4 H4 hg4=>cOp e115<|Xa rfl<|OS ty41 H4 1 rfl rfl rfl rfl rfl (by first | decide | (simp; done) | simp [putAt]) rfl<|fun w5 H5=>Xr e115<|Rq<|Xf fl41_0 rfl<|OV (EL ty3 rfl (H5.cell (i := 1) rfl rfl))<|Xf fl57_2 rfl<|OV (EL ty3 rfl (H5.cell (i := 0) rfl rfl))<|cOp e115<|OV (ex_add rfl rfl (IntWalk.i64_in _ (by omega)))<|Xm rfl<|OV (ex_add rfl rfl (IntWalk.i64_in _ (by omega)))<|OT (ex_neq rfl rfl) (fun hp84 => ?_) (fun hp84 => ?_)
 refine Xm rfl<|cOp e115<|OZ rfl<|OZ rfl<|cOp e115<|OZ rfl<|Xt rfl rfl<|Xm rfl<|cOp e115<|OZ rfl<|OZ rfl<|cOp e115<|OZ rfl<|OZ rfl<|Xt rfl rfl<|Xr e115<|J3 rfl<|Rq<|Xa rfl<|Xa rfl<|Xr e115<|J5<|BR<|rnd_ret<|BR<|FN2 rfl rfl rfl<|⟨_, _, rfl, Ans.no (chk_f3 (by rw [hinv]; exact ent_no hx fun hh => by omega)), H5.noRows⟩
 refine Xm rfl<|cOp e115<|OY rfl<|Xf fl41_0 rfl<|OY rfl<|OV (EL ty3 rfl (H5.cell (i := 1) rfl rfl))<|cOp e115<|OY rfl<|OT (ex_gtr rfl rfl) (fun hp88 => ?_) (fun hp88 => ?_)
 refine Xu rfl rfl<|Xm rfl<|cOp e115<|OZ rfl<|OZ rfl<|cOp e115<|OZ rfl<|OZ rfl<|Xt rfl rfl<|Xr e115<|J3 rfl<|Rq<|Xa rfl<|Xa rfl<|Xr e115<|J5<|BR<|rnd_ret<|BR<|FN2 rfl rfl rfl<|⟨_, _, rfl, Ans.no (chk_f3 (by rw [hinv]; exact ent_no hx fun hh => by omega)), H5.noRows⟩
 refine Xu rfl rfl<|Xm rfl<|cOp e115<|OY rfl<|Xf fl41_1 rfl<|OY rfl<|OV (EL ty37 rfl (H5.cell (i := 1) rfl rfl))<|cOp e115<|OY rfl<|OV (ES Tryz.underlying37 rfl)<|OY rfl<|OT (ex_gtr rfl rfl) (fun hp94 => ?_) (fun hp94 => ?_)
 refine Xu rfl rfl<|Xr e115<|J3 rfl<|Rq<|Xa rfl<|Xa rfl<|Xr e115<|J5<|BR<|rnd_ret<|BR<|FN2 rfl rfl rfl<|⟨_, _, rfl, Ans.no (chk_f3 (by rw [hinv]; exact ent_no hx fun hh => by omega)), H5.noRows⟩
 refine Xu rfl rfl<|Xr e115<|J4 rfl<|J6<|run_nil (blk_normal ?_)
 refine J2<|OV (ex_add rfl rfl (IntWalk.i64_in _ (by omega)))<|Xm rfl<|Xr e115<|run_nil (rnd_normal ?_)
 have hgo := ent_go (m := s.index + i) hx ⟨by omega, by omega, by omega⟩
 exact ⟨s.entries.length - (i + 1), by omega, i + 1, _, rfl, (fn (fs (fn (fn (fn (fs (fn (fn (fn (fn (fn (fn (fn (fn (fn (fn (fn (fn (fn (fn (fn (fn (fn (fn (fn (fn (fn (fn (fn (fn (fn (fn (fn (fn (fn (fn (fn (fn (fn (fn (fn (fn (fn (fn (fn (fn (fn (fn (fn (fn (fn (fn (fn (fn (fn (fn (fn (fn (fn (fn (fn (fn (fn (fn (fn (fn (fn (fn (fn (fn (fs (fs (fs (fn (fn (fn (fn (fn (fn (fn (fn (fn (fn (fn (fn (fn (fn (fn (fn (fn (fn (fn (fn (fn (fn (fn (fn (fn (fn (fn (fn (fn (fn (fn (fn (fn (fn (fn (fn (fn (fn (fn (fn (fn (fn f0))))))))))))))))))))))))))))))))))))))))))))))))))))))))))))))))))))))))))))))))))))))))))))))))))))))))))))))))))), by omega, by omega, by rw [hinv, hgo]; congr 1; omega, H5.pick [0] (by decide)⟩
 obtain rfl : i = s.entries.length := by omega
 have hent := hinv.trans ent_end
 refine Xr e115<|J1<|J4 rfl<|J8<|rnd_exit<|blk_exit<|Rq<|Xf fl57_0 rfl<|OV (EN ty36 rfl (vs := [.int .i64 s.p.r, .int .i64 s.p.n]) rfl (H3.cellsR (i := 0) rfl rfl))<|Xf fl57_2 rfl<|OV (EL ty3 rfl (H3.cell (i := 0) rfl rfl))<|cOp e115<|Xf fl57_4 rfl<|OV (EL ty55 rfl (H3.cell (i := 0) rfl rfl))<|OV (ES Tryz.underlying55 rfl)<|OV (ex_add rfl rfl (IntWalk.i64_in _ (by omega)))<|cOp e115<|OV (ex_add rfl rfl (IntWalk.i64_in _ (by omega)))<|Xf fl57_1 rfl<|OV (EL ty54 rfl (H3.cell (i := 0) rfl rfl))<|OQ (EC gf93 rfl) (load_a s.p (s.index + s.entries.length + 1) A1 k1 s.votes ok _ (hv1.toV H3 k0) (by omega)) ?_
 rintro _ w4 ⟨v, e, rfl, hans, Hd⟩
 have H4 := H3.callN Hd
 rw [← chk_ld (by omega) (by omega) hent] at hans
 refine cOp e115<|Xm rfl<|Xe rfl rfl<|Xe rfl rfl<|Xa rfl<|cOp e115<|Xa rfl<|Xr e115<|J1<|Rq<|Xm rfl<|OT (ex_neq rfl rfl) (fun hp113 => ?_) (fun hp113 => ?_)
 refine Xr e115<|J3 rfl<|Rq<|Xa rfl<|Xa rfl<|Xr e115<|J5<|FN2 rfl rfl rfl<|⟨_, _, rfl, Ans.no (by cases hc : chk s with | false => rfl | true => exact absurd (hans.1 hc) hp113), H4.noRows⟩
 refine Xr e115<|J4 rfl<|J6<|Rq<|Xm rfl<|Xa rfl<|Xa rfl<|Xr e115<|J5<|FN2 rfl rfl rfl<|⟨_, _, rfl, Ans.ok (by cases hc : chk s with | true => rfl | false => have := hans.2 hc; omega), H4.noRows⟩
 refine OY rfl<|Xm rfl<|OZ rfl<|cOp e115<|OZ rfl<|OZ rfl<|cOp e115<|OZ rfl<|OY rfl<|Xu rfl rfl<|Xu rfl rfl<|Xm rfl<|cOp e115<|OY rfl<|Xf fl57_3 rfl<|OY rfl<|OV (EL ty37 rfl (H2.cell (i := 0) rfl rfl))<|cOp e115<|OY rfl<|OV (ES Tryz.underlying37 rfl)<|OY rfl<|OT (ex_gtr rfl rfl) (fun hp67 => ?_) (fun hp67 => ?_)
 refine Xu rfl rfl<|Xr e115<|J3 rfl<|Rq<|Xa rfl<|Xa rfl<|Xr e115<|J5<|FN2 rfl rfl rfl<|⟨_, _, rfl, Ans.no (chk_f2 (by omega)), H2.noRows⟩
 refine Xu rfl rfl<|Xr e115<|J4 rfl<|J6<|J1<|Rq<|Xf fl57_4 rfl<|OV (EL ty55 rfl (H2.cell (i := 0) rfl rfl))<|OV (ES Tryz.underlying55 rfl)<|Xm rfl<|Xr e115<|J7<|run_loop (fun nQ lQ w => ∃ (i : Nat) (y : Int), s.entries.length - i = nQ ∧ Fits [none, some (.int .i64 5), none, none, none, some (.pointer (some ⟨gs, 0, none⟩)), none, none, none, none, none, none, none, none, none, none, none, none, none, none, none, none, none, none, none, none, none, none, none, none, none, none, none, none, none, none, none, none, none, none, none, none, none, none, none, none, none, none, none, none, none, none, none, none, none, none, none, none, none, none, none, none, none, none, none, none, none, none, none, none, some (.slice A3 s.entries.length k3), some (.int .i64 (s.entries.length : Int)), some (.int .i64 y), none, none, none, none, none, none, none, none, none, none, none, none, none, none, none, none, none, none, none, none, none, none, none, none, none, none, none, none, none, none, none, none, none, none, none, none, none, none, none, none, none, none] lQ ∧ y = (i : Int) ∧ i ≤ s.entries.length ∧ entOk s.index s.entries = entOk (s.index + i) (s.entries.drop i) ∧ Hp w0 w [] [((some gs, 57, [.int .i64 s.p.r, .int .i64 s.p.n, .slice A1 s.votes.length k1, .int .i64 s.index, .slice A2 s.image.length k2, .slice A3 s.entries.length k3]) : Ent)]) (s.entries.length) ?_ ?_
 exact ⟨0, _, rfl, (fn (fs (fn (fn (fn (fs (fn (fn (fn (fn (fn (fn (fn (fn (fn (fn (fn (fn (fn (fn (fn (fn (fn (fn (fn (fn (fn (fn (fn (fn (fn (fn (fn (fn (fn (fn (fn (fn (fn (fn (fn (fn (fn (fn (fn (fn (fn (fn (fn (fn (fn (fn (fn (fn (fn (fn (fn (fn (fn (fn (fn (fn (fn (fn (fn (fn (fn (fn (fn (fn (fs (fs (fs (fn (fn (fn (fn (fn (fn (fn (fn (fn (fn (fn (fn (fn (fn (fn (fn (fn (fn (fn (fn (fn (fn (fn (fn (fn (fn (fn (fn (fn (fn (fn (fn (fn (fn (fn (fn (fn (fn (fn (fn (fn (fn f0))))))))))))))))))))))))))))))))))))))))))))))))))))))))))))))))))))))))))))))))))))))))))))))))))))))))))))))))))), rfl, Nat.zero_le _, by simp, H2⟩
 rintro nQ lQ w3 ⟨i, y, rfl, hfit, rfl, hi, hinv, H3⟩
 obtain ⟨j, rfl⟩ := hfit.open
 refine cR e115 ?_
 clear hfit
 refine Rq<|OT (ex_lss rfl rfl) (fun hp73 => ?_) (fun hp73 => ?_)
 have hil : i < s.entries.length := by omega
 obtain ⟨x, hx⟩ := get_of hil
 obtain ⟨p1, hp1, hR⟩ := he2.get hx
 obtain ⟨Ax, kx, rfl, hbx⟩ := hR
 obtain ⟨a1, ha1⟩ := hre.some_ (by omega)
 subst ha1
 refine Xr e115<|J1<|J3 rfl<|J6<|J1<|J7<|Rq<|Xm rfl<|OV (EI Tryz.underlying55 ty41 rfl rfl rfl hil rfl)<|OV (EN ty41 rfl (vs := [.int .i64 x.slot, .slice Ax x.val.length kx]) rfl ((hre.to0 H3).elem hpe hp1))<|OA ty41 H3<|fun w4 g4 H4 hg4=>cOp e115<|Xa rfl<|OS ty41 H4 1 rfl rfl rfl rfl rfl (by first | decide | (simp; done) | simp [putAt]) rfl<|fun w5 H5=>Xr e115<|Rq<|Xf fl41_0 rfl<|OV (EL ty3 rfl (H5.cell (i := 1) rfl rfl))<|Xf fl57_2 rfl<|OV (EL ty3 rfl (H5.cell (i := 0) rfl rfl))<|cOp e115<|OV (ex_add rfl rfl (IntWalk.i64_in _ (by omega)))<|Xm rfl<|OV (ex_add rfl rfl (IntWalk.i64_in _ (by omega)))<|OT (ex_neq rfl rfl) (fun hp84 => ?_) (fun hp84 => ?_)
 refine Xm rfl<|cOp e115<|OZ rfl<|OZ rfl<|cOp e115<|OZ rfl<|Xt rfl rfl<|Xm rfl<|cOp e115<|OZ rfl<|OZ rfl<|cOp e115<|OZ rfl<|OZ rfl<|Xt rfl rfl<|Xr e115<|J3 rfl<|Rq<|Xa rfl<|Xa rfl<|Xr e115<|J5<|BR<|rnd_ret<|BR<|FN2 rfl rfl rfl<|⟨_, _, rfl, Ans.no (chk_f3 (by rw [hinv]; exact ent_no hx fun hh => by omega)), H5.noRows⟩
 refine Xm rfl<|cOp e115<|OY rfl<|Xf fl41_0 rfl<|OY rfl<|OV (EL ty3 rfl (H5.cell (i := 1) rfl rfl))<|cOp e115<|OY rfl<|OT (ex_gtr rfl rfl) (fun hp88 => ?_) (fun hp88 => ?_)
 refine Xu rfl rfl<|Xm rfl<|cOp e115<|OZ rfl<|OZ rfl<|cOp e115<|OZ rfl<|OZ rfl<|Xt rfl rfl<|Xr e115<|J3 rfl<|Rq<|Xa rfl<|Xa rfl<|Xr e115<|J5<|BR<|rnd_ret<|BR<|FN2 rfl rfl rfl<|⟨_, _, rfl, Ans.no (chk_f3 (by rw [hinv]; exact ent_no hx fun hh => by omega)), H5.noRows⟩
 refine Xu rfl rfl<|Xm rfl<|cOp e115<|OY rfl<|Xf fl41_1 rfl<|OY rfl<|OV (EL ty37 rfl (H5.cell (i := 1) rfl rfl))<|cOp e115<|OY rfl<|OV (ES Tryz.underlying37 rfl)<|OY rfl<|OT (ex_gtr rfl rfl) (fun hp94 => ?_) (fun hp94 => ?_)
 refine Xu rfl rfl<|Xr e115<|J3 rfl<|Rq<|Xa rfl<|Xa rfl<|Xr e115<|J5<|BR<|rnd_ret<|BR<|FN2 rfl rfl rfl<|⟨_, _, rfl, Ans.no (chk_f3 (by rw [hinv]; exact ent_no hx fun hh => by omega)), H5.noRows⟩
 refine Xu rfl rfl<|Xr e115<|J4 rfl<|J6<|run_nil (blk_normal ?_)
 refine J2<|OV (ex_add rfl rfl (IntWalk.i64_in _ (by omega)))<|Xm rfl<|Xr e115<|run_nil (rnd_normal ?_)
 have hgo := ent_go (m := s.index + i) hx ⟨by omega, by omega, by omega⟩
 exact ⟨s.entries.length - (i + 1), by omega, i + 1, _, rfl, (fn (fs (fn (fn (fn (fs (fn (fn (fn (fn (fn (fn (fn (fn (fn (fn (fn (fn (fn (fn (fn (fn (fn (fn (fn (fn (fn (fn (fn (fn (fn (fn (fn (fn (fn (fn (fn (fn (fn (fn (fn (fn (fn (fn (fn (fn (fn (fn (fn (fn (fn (fn (fn (fn (fn (fn (fn (fn (fn (fn (fn (fn (fn (fn (fn (fn (fn (fn (fn (fn (fs (fs (fs (fn (fn (fn (fn (fn (fn (fn (fn (fn (fn (fn (fn (fn (fn (fn (fn (fn (fn (fn (fn (fn (fn (fn (fn (fn (fn (fn (fn (fn (fn (fn (fn (fn (fn (fn (fn (fn (fn (fn (fn (fn (fn f0))))))))))))))))))))))))))))))))))))))))))))))))))))))))))))))))))))))))))))))))))))))))))))))))))))))))))))))))))), by omega, by omega, by rw [hinv, hgo]; congr 1; omega, H5.pick [0] (by decide)⟩
 obtain rfl : i = s.entries.length := by omega
 have hent := hinv.trans ent_end
 refine Xr e115<|J1<|J4 rfl<|J8<|rnd_exit<|blk_exit<|Rq<|Xf fl57_0 rfl<|OV (EN ty36 rfl (vs := [.int .i64 s.p.r, .int .i64 s.p.n]) rfl (H3.cellsR (i := 0) rfl rfl))<|Xf fl57_2 rfl<|OV (EL ty3 rfl (H3.cell (i := 0) rfl rfl))<|cOp e115<|Xf fl57_4 rfl<|OV (EL ty55 rfl (H3.cell (i := 0) rfl rfl))<|OV (ES Tryz.underlying55 rfl)<|OV (ex_add rfl rfl (IntWalk.i64_in _ (by omega)))<|cOp e115<|OV (ex_add rfl rfl (IntWalk.i64_in _ (by omega)))<|Xf fl57_1 rfl<|OV (EL ty54 rfl (H3.cell (i := 0) rfl rfl))<|OQ (EC gf93 rfl) (load_a s.p (s.index + s.entries.length + 1) A1 k1 s.votes ok _ (hv1.toV H3 k0) (by omega)) ?_
 rintro _ w4 ⟨v, e, rfl, hans, Hd⟩
 have H4 := H3.callN Hd
 rw [← chk_ld (by omega) (by omega) hent] at hans
 refine cOp e115<|Xm rfl<|Xe rfl rfl<|Xe rfl rfl<|Xa rfl<|cOp e115<|Xa rfl<|Xr e115<|J1<|Rq<|Xm rfl<|OT (ex_neq rfl rfl) (fun hp113 => ?_) (fun hp113 => ?_)
 refine Xr e115<|J3 rfl<|Rq<|Xa rfl<|Xa rfl<|Xr e115<|J5<|FN2 rfl rfl rfl<|⟨_, _, rfl, Ans.no (by cases hc : chk s with | false => rfl | true => exact absurd (hans.1 hc) hp113), H4.noRows⟩
 refine Xr e115<|J4 rfl<|J6<|Rq<|Xm rfl<|Xa rfl<|Xa rfl<|Xr e115<|J5<|FN2 rfl rfl rfl<|⟨_, _, rfl, Ans.ok (by cases hc : chk s with | true => rfl | false => have := hans.2 hc; omega), H4.noRows⟩
 have H2 := H1.callN Hd
 refine OY rfl<|Xn rfl<|Xt rfl rfl<|Xm rfl<|cOp e115<|OZ rfl<|OZ rfl<|cOp e115<|OZ rfl<|Xt rfl rfl<|Xm rfl<|cOp e115<|OZ rfl<|OZ rfl<|cOp e115<|OZ rfl<|Xt rfl rfl<|Xm rfl<|cOp e115<|OZ rfl<|OZ rfl<|cOp e115<|OZ rfl<|OZ rfl<|cOp e115<|OZ rfl<|OZ rfl<|cOp e115<|OZ rfl<|OZ rfl<|cOp e115<|OZ rfl<|Xt rfl rfl<|Xm rfl<|cOp e115<|OZ rfl<|OZ rfl<|cOp e115<|OZ rfl<|OZ rfl ?_
 refine Xt rfl rfl<|Xr e115<|J3 rfl<|Rq<|Xa rfl<|Xa rfl<|Xr e115<|J5<|FN2 rfl rfl rfl<|⟨_, _, rfl, Ans.no (chk_f1 (by omega)), H2.noRows⟩
 refine Xm rfl<|cOp e115<|OZ rfl<|OZ rfl<|cOp e115<|OZ rfl<|OZ rfl<|cOp e115<|OZ rfl<|Xu rfl rfl<|Xm rfl<|cOp e115<|OY rfl<|Xf fl57_2 rfl<|OY rfl<|OV (EL ty3 rfl (H1.cell (i := 0) rfl rfl))<|cOp e115<|OY rfl<|OT (ex_lss rfl rfl) (fun hp45 => ?_) (fun hp45 => ?_)
 refine Xu rfl rfl<|Xm rfl<|cOp e115<|OZ rfl<|OZ rfl<|cOp e115<|OZ rfl<|Xt rfl rfl<|Xm rfl<|cOp e115<|OZ rfl<|OZ rfl<|cOp e115<|OZ rfl<|OZ rfl<|cOp e115<|OZ rfl<|OZ rfl<|cOp e115<|OZ rfl<|OZ rfl<|cOp e115<|OZ rfl<|Xt rfl rfl<|Xm rfl<|cOp e115<|OZ rfl<|OZ rfl<|cOp e115<|OZ rfl<|OZ rfl<|Xt rfl rfl<|Xr e115<|J3 rfl<|Rq<|Xa rfl<|Xa rfl<|OE ?_
 refine cR e115<|J5<|FN2 rfl rfl rfl<|⟨_, _, rfl, Ans.no (chk_f2 (by omega)), H1.noRows⟩
 refine Xu rfl rfl<|Xm rfl<|cOp e115<|OY rfl<|Xf fl57_2 rfl<|OY rfl<|OV (EL ty3 rfl (H1.cell (i := 0) rfl rfl))<|cOp e115<|OY rfl<|OT (ex_gtr rfl rfl) (fun hp50 => ?_) (fun hp50 => ?_)
 refine Xu rfl rfl<|Xm rfl<|cOp e115<|OZ rfl<|OZ rfl<|cOp e115<|OZ rfl<|OZ rfl<|cOp e115<|OZ rfl<|OZ rfl<|cOp e115<|OZ rfl<|OZ rfl<|cOp e115<|OZ rfl<|Xt rfl rfl<|Xm rfl<|cOp e115<|OZ rfl<|OZ rfl<|cOp e115<|OZ rfl<|OZ rfl<|Xt rfl rfl<|Xr e115<|J3 rfl<|Rq<|Xa rfl<|Xa rfl<|Xr e115<|J5<|FN2 rfl rfl rfl<|⟨_, _, rfl, Ans.no (chk_f2 (by omega)), H1.noRows⟩
 refine Xu rfl rfl<|Xm rfl<|cOp e115<|OY rfl<|Xf fl57_2 rfl<|OY rfl<|OV (EL ty3 rfl (H1.cell (i := 0) rfl rfl))<|cOp e115<|OY rfl<|OT (ex_eql rfl rfl) (fun hp55 => ?_) (fun hp55 => ?_)
 refine OY rfl<|Xm rfl<|OY rfl<|Xf fl57_3 rfl<|cOp e115<|OY rfl<|OV (EL ty37 rfl (H1.cell (i := 0) rfl rfl))<|OY rfl<|OV (ES Tryz.underlying37 rfl)<|cOp e115<|OY rfl<|OT (ex_gtr rfl rfl) (fun hp60 => ?_) (fun hp60 => ?_)
 refine OY rfl<|Xt rfl rfl<|Xu rfl rfl<|Xm rfl<|cOp e115<|OZ rfl<|OZ rfl<|cOp e115<|OZ rfl<|OZ rfl<|Xt rfl rfl<|Xr e115<|J3 rfl<|Rq<|Xa rfl<|Xa rfl<|Xr e115<|J5<|FN2 rfl rfl rfl<|⟨_, _, rfl, Ans.no (chk_f2 (by omega)), H1.noRows⟩
 refine OY rfl<|Xt rfl rfl<|Xu rfl rfl<|Xm rfl<|cOp e115<|OY rfl<|Xf fl57_3 rfl<|OY rfl<|OV (EL ty37 rfl (H1.cell (i := 0) rfl rfl))<|cOp e115<|OY rfl<|OV (ES Tryz.underlying37 rfl)<|OY rfl<|OT (ex_gtr rfl rfl) (fun hp67 => ?_) (fun hp67 => ?_)
 refine Xu rfl rfl<|Xr e115<|J3 rfl<|Rq<|Xa rfl<|Xa rfl<|Xr e115<|J5<|FN2 rfl rfl rfl<|⟨_, _, rfl, Ans.no (chk_f2 (by omega)), H1.noRows⟩
 refine Xu rfl rfl<|Xr e115<|J4 rfl<|J6<|J1<|Rq<|Xf fl57_4 rfl<|OV (EL ty55 rfl (H1.cell (i := 0) rfl rfl))<|OV (ES Tryz.underlying55 rfl)<|Xm rfl<|Xr e115<|J7<|run_loop (fun nQ lQ w => ∃ (i : Nat) (y : Int), s.entries.length - i = nQ ∧ Fits [none, some (.int .i64 5), none, none, none, some (.pointer (some ⟨gs, 0, none⟩)), none, none, none, none, none, none, none, none, none, none, none, none, none, none, none, none, none, none, none, none, none, none, none, none, none, none, none, none, none, none, none, none, none, none, none, none, none, none, none, none, none, none, none, none, none, none, none, none, none, none, none, none, none, none, none, none, none, none, none, none, none, none, none, none, some (.slice A3 s.entries.length k3), some (.int .i64 (s.entries.length : Int)), some (.int .i64 y), none, none, none, none, none, none, none, none, none, none, none, none, none, none, none, none, none, none, none, none, none, none, none, none, none, none, none, none, none, none, none, none, none, none, none, none, none, none, none, none, none, none] lQ ∧ y = (i : Int) ∧ i ≤ s.entries.length ∧ entOk s.index s.entries = entOk (s.index + i) (s.entries.drop i) ∧ Hp w0 w [] [((some gs, 57, [.int .i64 s.p.r, .int .i64 s.p.n, .slice A1 s.votes.length k1, .int .i64 s.index, .slice A2 s.image.length k2, .slice A3 s.entries.length k3]) : Ent)]) (s.entries.length) ?_ ?_
 exact ⟨0, _, rfl, (fn (fs (fn (fn (fn (fs (fn (fn (fn (fn (fn (fn (fn (fn (fn (fn (fn (fn (fn (fn (fn (fn (fn (fn (fn (fn (fn (fn (fn (fn (fn (fn (fn (fn (fn (fn (fn (fn (fn (fn (fn (fn (fn (fn (fn (fn (fn (fn (fn (fn (fn (fn (fn (fn (fn (fn (fn (fn (fn (fn (fn (fn (fn (fn (fn (fn (fn (fn (fn (fn (fs (fs (fs (fn (fn (fn (fn (fn (fn (fn (fn (fn (fn (fn (fn (fn (fn (fn (fn (fn (fn (fn (fn (fn (fn (fn (fn (fn (fn (fn (fn (fn (fn (fn (fn (fn (fn (fn (fn (fn (fn (fn (fn (fn (fn f0))))))))))))))))))))))))))))))))))))))))))))))))))))))))))))))))))))))))))))))))))))))))))))))))))))))))))))))))))), rfl, Nat.zero_le _, by simp, H1⟩
 rintro nQ lQ w2 ⟨i, y, rfl, hfit, rfl, hi, hinv, H2⟩
 obtain ⟨j, rfl⟩ := hfit.open
 refine cR e115 ?_
 clear hfit
 refine Rq<|OT (ex_lss rfl rfl) (fun hp73 => ?_) (fun hp73 => ?_)
 have hil : i < s.entries.length := by omega
 obtain ⟨x, hx⟩ := get_of hil
 obtain ⟨p1, hp1, hR⟩ := he2.get hx
 obtain ⟨Ax, kx, rfl, hbx⟩ := hR
 obtain ⟨a1, ha1⟩ := hre.some_ (by omega)
 subst ha1
 refine Xr e115<|J1<|J3 rfl<|J6<|J1<|J7<|Rq<|Xm rfl<|OV (EI Tryz.underlying55 ty41 rfl rfl rfl hil rfl)<|OV (EN ty41 rfl (vs := [.int .i64 x.slot, .slice Ax x.val.length kx]) rfl ((hre.to0 H2).elem hpe hp1))<|OA ty41 H2<|fun w3 g3 H3 hg3=>cOp e115<|Xa rfl<|OS ty41 H3 1 rfl rfl rfl rfl rfl (by first | decide | (simp; done) | simp [putAt]) rfl<|fun w4 H4=>Xr e115<|Rq<|Xf fl41_0 rfl<|OV (EL ty3 rfl (H4.cell (i := 1) rfl rfl))<|Xf fl57_2 rfl<|OV (EL ty3 rfl (H4.cell (i := 0) rfl rfl))<|cOp e115<|OV (ex_add rfl rfl (IntWalk.i64_in _ (by omega)))<|Xm rfl<|OV (ex_add rfl rfl (IntWalk.i64_in _ (by omega)))<|OT (ex_neq rfl rfl) (fun hp84 => ?_) (fun hp84 => ?_)
 refine Xm rfl<|cOp e115<|OZ rfl<|OZ rfl<|cOp e115<|OZ rfl<|Xt rfl rfl<|Xm rfl<|cOp e115<|OZ rfl<|OZ rfl<|cOp e115<|OZ rfl<|OZ rfl<|Xt rfl rfl<|Xr e115<|J3 rfl<|Rq<|Xa rfl<|Xa rfl<|Xr e115<|J5<|BR<|rnd_ret<|BR<|FN2 rfl rfl rfl<|⟨_, _, rfl, Ans.no (chk_f3 (by rw [hinv]; exact ent_no hx fun hh => by omega)), H4.noRows⟩
 refine Xm rfl<|cOp e115<|OY rfl<|Xf fl41_0 rfl<|OY rfl<|OV (EL ty3 rfl (H4.cell (i := 1) rfl rfl))<|cOp e115<|OY rfl<|OT (ex_gtr rfl rfl) (fun hp88 => ?_) (fun hp88 => ?_)
 refine Xu rfl rfl<|Xm rfl<|cOp e115<|OZ rfl<|OZ rfl<|cOp e115<|OZ rfl<|OZ rfl<|Xt rfl rfl<|Xr e115<|J3 rfl<|Rq<|Xa rfl<|Xa rfl<|Xr e115<|J5<|BR<|rnd_ret<|BR<|FN2 rfl rfl rfl<|⟨_, _, rfl, Ans.no (chk_f3 (by rw [hinv]; exact ent_no hx fun hh => by omega)), H4.noRows⟩
 refine Xu rfl rfl<|Xm rfl<|cOp e115<|OY rfl<|Xf fl41_1 rfl<|OY rfl<|OV (EL ty37 rfl (H4.cell (i := 1) rfl rfl))<|cOp e115<|OY rfl<|OV (ES Tryz.underlying37 rfl)<|OY rfl<|OT (ex_gtr rfl rfl) (fun hp94 => ?_) (fun hp94 => ?_)
 refine Xu rfl rfl<|Xr e115<|J3 rfl<|Rq<|Xa rfl<|Xa rfl<|Xr e115<|J5<|BR<|rnd_ret<|BR<|FN2 rfl rfl rfl<|⟨_, _, rfl, Ans.no (chk_f3 (by rw [hinv]; exact ent_no hx fun hh => by omega)), H4.noRows⟩
 refine Xu rfl rfl<|Xr e115<|J4 rfl<|J6<|run_nil (blk_normal ?_)
 refine J2<|OV (ex_add rfl rfl (IntWalk.i64_in _ (by omega)))<|Xm rfl<|Xr e115<|run_nil (rnd_normal ?_)
 have hgo := ent_go (m := s.index + i) hx ⟨by omega, by omega, by omega⟩
 exact ⟨s.entries.length - (i + 1), by omega, i + 1, _, rfl, (fn (fs (fn (fn (fn (fs (fn (fn (fn (fn (fn (fn (fn (fn (fn (fn (fn (fn (fn (fn (fn (fn (fn (fn (fn (fn (fn (fn (fn (fn (fn (fn (fn (fn (fn (fn (fn (fn (fn (fn (fn (fn (fn (fn (fn (fn (fn (fn (fn (fn (fn (fn (fn (fn (fn (fn (fn (fn (fn (fn (fn (fn (fn (fn (fn (fn (fn (fn (fn (fn (fs (fs (fs (fn (fn (fn (fn (fn (fn (fn (fn (fn (fn (fn (fn (fn (fn (fn (fn (fn (fn (fn (fn (fn (fn (fn (fn (fn (fn (fn (fn (fn (fn (fn (fn (fn (fn (fn (fn (fn (fn (fn (fn (fn (fn f0))))))))))))))))))))))))))))))))))))))))))))))))))))))))))))))))))))))))))))))))))))))))))))))))))))))))))))))))))), by omega, by omega, by rw [hinv, hgo]; congr 1; omega, H4.pick [0] (by decide)⟩
 obtain rfl : i = s.entries.length := by omega
 have hent := hinv.trans ent_end
 refine Xr e115<|J1<|J4 rfl<|J8<|rnd_exit<|blk_exit<|Rq<|Xf fl57_0 rfl<|OV (EN ty36 rfl (vs := [.int .i64 s.p.r, .int .i64 s.p.n]) rfl (H2.cellsR (i := 0) rfl rfl))<|Xf fl57_2 rfl<|OV (EL ty3 rfl (H2.cell (i := 0) rfl rfl))<|cOp e115<|Xf fl57_4 rfl<|OV (EL ty55 rfl (H2.cell (i := 0) rfl rfl))<|OV (ES Tryz.underlying55 rfl)<|OV (ex_add rfl rfl (IntWalk.i64_in _ (by omega)))<|cOp e115<|OV (ex_add rfl rfl (IntWalk.i64_in _ (by omega)))<|Xf fl57_1 rfl<|OV (EL ty54 rfl (H2.cell (i := 0) rfl rfl))<|OQ (EC gf93 rfl) (load_a s.p (s.index + s.entries.length + 1) A1 k1 s.votes ok _ (hv1.toV H2 k0) (by omega)) ?_
 rintro _ w3 ⟨v, e, rfl, hans, Hd⟩
 have H3 := H2.callN Hd
 rw [← chk_ld (by omega) (by omega) hent] at hans
 refine cOp e115<|Xm rfl<|Xe rfl rfl<|Xe rfl rfl<|Xa rfl<|cOp e115<|Xa rfl<|Xr e115<|J1<|Rq<|Xm rfl<|OT (ex_neq rfl rfl) (fun hp113 => ?_) (fun hp113 => ?_)
 refine Xr e115<|J3 rfl<|Rq<|Xa rfl<|Xa rfl<|Xr e115<|J5<|FN2 rfl rfl rfl<|⟨_, _, rfl, Ans.no (by cases hc : chk s with | false => rfl | true => exact absurd (hans.1 hc) hp113), H3.noRows⟩
 refine Xr e115<|J4 rfl<|J6<|Rq<|Xm rfl<|Xa rfl<|Xa rfl<|Xr e115<|J5<|FN2 rfl rfl rfl<|⟨_, _, rfl, Ans.ok (by cases hc : chk s with | true => rfl | false => have := hans.2 hc; omega), H3.noRows⟩
 refine OY rfl<|Xm rfl<|OZ rfl<|cOp e115<|OZ rfl<|OZ rfl<|cOp e115<|OZ rfl<|OY rfl<|Xu rfl rfl<|Xu rfl rfl<|Xm rfl<|cOp e115<|OY rfl<|Xf fl57_3 rfl<|OY rfl<|OV (EL ty37 rfl (H1.cell (i := 0) rfl rfl))<|cOp e115<|OY rfl<|OV (ES Tryz.underlying37 rfl)<|OY rfl<|OT (ex_gtr rfl rfl) (fun hp67 => ?_) (fun hp67 => ?_)
 refine Xu rfl rfl<|Xr e115<|J3 rfl<|Rq<|Xa rfl<|Xa rfl<|Xr e115<|J5<|FN2 rfl rfl rfl<|⟨_, _, rfl, Ans.no (chk_f2 (by omega)), H1.noRows⟩
 refine Xu rfl rfl<|Xr e115<|J4 rfl<|J6<|J1<|Rq<|Xf fl57_4 rfl<|OV (EL ty55 rfl (H1.cell (i := 0) rfl rfl))<|OV (ES Tryz.underlying55 rfl)<|Xm rfl<|Xr e115<|J7<|run_loop (fun nQ lQ w => ∃ (i : Nat) (y : Int), s.entries.length - i = nQ ∧ Fits [none, some (.int .i64 5), none, none, none, some (.pointer (some ⟨gs, 0, none⟩)), none, none, none, none, none, none, none, none, none, none, none, none, none, none, none, none, none, none, none, none, none, none, none, none, none, none, none, none, none, none, none, none, none, none, none, none, none, none, none, none, none, none, none, none, none, none, none, none, none, none, none, none, none, none, none, none, none, none, none, none, none, none, none, none, some (.slice A3 s.entries.length k3), some (.int .i64 (s.entries.length : Int)), some (.int .i64 y), none, none, none, none, none, none, none, none, none, none, none, none, none, none, none, none, none, none, none, none, none, none, none, none, none, none, none, none, none, none, none, none, none, none, none, none, none, none, none, none, none, none] lQ ∧ y = (i : Int) ∧ i ≤ s.entries.length ∧ entOk s.index s.entries = entOk (s.index + i) (s.entries.drop i) ∧ Hp w0 w [] [((some gs, 57, [.int .i64 s.p.r, .int .i64 s.p.n, .slice A1 s.votes.length k1, .int .i64 s.index, .slice A2 s.image.length k2, .slice A3 s.entries.length k3]) : Ent)]) (s.entries.length) ?_ ?_
 exact ⟨0, _, rfl, (fn (fs (fn (fn (fn (fs (fn (fn (fn (fn (fn (fn (fn (fn (fn (fn (fn (fn (fn (fn (fn (fn (fn (fn (fn (fn (fn (fn (fn (fn (fn (fn (fn (fn (fn (fn (fn (fn (fn (fn (fn (fn (fn (fn (fn (fn (fn (fn (fn (fn (fn (fn (fn (fn (fn (fn (fn (fn (fn (fn (fn (fn (fn (fn (fn (fn (fn (fn (fn (fn (fs (fs (fs (fn (fn (fn (fn (fn (fn (fn (fn (fn (fn (fn (fn (fn (fn (fn (fn (fn (fn (fn (fn (fn (fn (fn (fn (fn (fn (fn (fn (fn (fn (fn (fn (fn (fn (fn (fn (fn (fn (fn (fn (fn (fn f0))))))))))))))))))))))))))))))))))))))))))))))))))))))))))))))))))))))))))))))))))))))))))))))))))))))))))))))))))), rfl, Nat.zero_le _, by simp, H1⟩
 rintro nQ lQ w2 ⟨i, y, rfl, hfit, rfl, hi, hinv, H2⟩
 obtain ⟨j, rfl⟩ := hfit.open
 refine cR e115 ?_
 clear hfit
 refine Rq<|OT (ex_lss rfl rfl) (fun hp73 => ?_) (fun hp73 => ?_)
 have hil : i < s.entries.length := by omega
 obtain ⟨x, hx⟩ := get_of hil
 obtain ⟨p1, hp1, hR⟩ := he2.get hx
 obtain ⟨Ax, kx, rfl, hbx⟩ := hR
 obtain ⟨a1, ha1⟩ := hre.some_ (by omega)
 subst ha1
 refine Xr e115<|J1<|J3 rfl<|J6<|J1<|J7<|Rq<|Xm rfl<|OV (EI Tryz.underlying55 ty41 rfl rfl rfl hil rfl)<|OV (EN ty41 rfl (vs := [.int .i64 x.slot, .slice Ax x.val.length kx]) rfl ((hre.to0 H2).elem hpe hp1))<|OA ty41 H2<|fun w3 g3 H3 hg3=>cOp e115<|Xa rfl<|OS ty41 H3 1 rfl rfl rfl rfl rfl (by first | decide | (simp; done) | simp [putAt]) rfl<|fun w4 H4=>Xr e115<|Rq<|Xf fl41_0 rfl<|OV (EL ty3 rfl (H4.cell (i := 1) rfl rfl))<|Xf fl57_2 rfl<|OV (EL ty3 rfl (H4.cell (i := 0) rfl rfl))<|cOp e115<|OV (ex_add rfl rfl (IntWalk.i64_in _ (by omega)))<|Xm rfl<|OV (ex_add rfl rfl (IntWalk.i64_in _ (by omega)))<|OT (ex_neq rfl rfl) (fun hp84 => ?_) (fun hp84 => ?_)
 refine Xm rfl<|cOp e115<|OZ rfl<|OZ rfl<|cOp e115<|OZ rfl<|Xt rfl rfl<|Xm rfl<|cOp e115<|OZ rfl<|OZ rfl<|cOp e115<|OZ rfl<|OZ rfl<|Xt rfl rfl<|Xr e115<|J3 rfl<|Rq<|Xa rfl<|Xa rfl<|Xr e115<|J5<|BR<|rnd_ret<|BR<|FN2 rfl rfl rfl<|⟨_, _, rfl, Ans.no (chk_f3 (by rw [hinv]; exact ent_no hx fun hh => by omega)), H4.noRows⟩
 refine Xm rfl<|cOp e115<|OY rfl<|Xf fl41_0 rfl<|OY rfl<|OV (EL ty3 rfl (H4.cell (i := 1) rfl rfl))<|cOp e115<|OY rfl<|OT (ex_gtr rfl rfl) (fun hp88 => ?_) (fun hp88 => ?_)
 refine Xu rfl rfl<|Xm rfl<|cOp e115<|OZ rfl<|OZ rfl<|cOp e115<|OZ rfl<|OZ rfl<|Xt rfl rfl<|Xr e115<|J3 rfl<|Rq<|Xa rfl<|Xa rfl<|Xr e115<|J5<|BR<|rnd_ret<|BR<|FN2 rfl rfl rfl<|⟨_, _, rfl, Ans.no (chk_f3 (by rw [hinv]; exact ent_no hx fun hh => by omega)), H4.noRows⟩
 refine Xu rfl rfl<|Xm rfl<|cOp e115<|OY rfl<|Xf fl41_1 rfl<|OY rfl<|OV (EL ty37 rfl (H4.cell (i := 1) rfl rfl))<|cOp e115<|OY rfl<|OV (ES Tryz.underlying37 rfl)<|OY rfl<|OT (ex_gtr rfl rfl) (fun hp94 => ?_) (fun hp94 => ?_)
 refine Xu rfl rfl<|Xr e115<|J3 rfl<|Rq<|Xa rfl<|Xa rfl<|Xr e115<|J5<|BR<|rnd_ret<|BR<|FN2 rfl rfl rfl<|⟨_, _, rfl, Ans.no (chk_f3 (by rw [hinv]; exact ent_no hx fun hh => by omega)), H4.noRows⟩
 refine Xu rfl rfl<|Xr e115<|J4 rfl<|J6<|run_nil (blk_normal ?_)
 refine J2<|OV (ex_add rfl rfl (IntWalk.i64_in _ (by omega)))<|Xm rfl<|Xr e115<|run_nil (rnd_normal ?_)
 have hgo := ent_go (m := s.index + i) hx ⟨by omega, by omega, by omega⟩
 exact ⟨s.entries.length - (i + 1), by omega, i + 1, _, rfl, (fn (fs (fn (fn (fn (fs (fn (fn (fn (fn (fn (fn (fn (fn (fn (fn (fn (fn (fn (fn (fn (fn (fn (fn (fn (fn (fn (fn (fn (fn (fn (fn (fn (fn (fn (fn (fn (fn (fn (fn (fn (fn (fn (fn (fn (fn (fn (fn (fn (fn (fn (fn (fn (fn (fn (fn (fn (fn (fn (fn (fn (fn (fn (fn (fn (fn (fn (fn (fn (fn (fs (fs (fs (fn (fn (fn (fn (fn (fn (fn (fn (fn (fn (fn (fn (fn (fn (fn (fn (fn (fn (fn (fn (fn (fn (fn (fn (fn (fn (fn (fn (fn (fn (fn (fn (fn (fn (fn (fn (fn (fn (fn (fn (fn (fn f0))))))))))))))))))))))))))))))))))))))))))))))))))))))))))))))))))))))))))))))))))))))))))))))))))))))))))))))))))), by omega, by omega, by rw [hinv, hgo]; congr 1; omega, H4.pick [0] (by decide)⟩
 obtain rfl : i = s.entries.length := by omega
 have hent := hinv.trans ent_end
 refine Xr e115<|J1<|J4 rfl<|J8<|rnd_exit<|blk_exit<|Rq<|Xf fl57_0 rfl<|OV (EN ty36 rfl (vs := [.int .i64 s.p.r, .int .i64 s.p.n]) rfl (H2.cellsR (i := 0) rfl rfl))<|Xf fl57_2 rfl<|OV (EL ty3 rfl (H2.cell (i := 0) rfl rfl))<|cOp e115<|Xf fl57_4 rfl<|OV (EL ty55 rfl (H2.cell (i := 0) rfl rfl))<|OV (ES Tryz.underlying55 rfl)<|OV (ex_add rfl rfl (IntWalk.i64_in _ (by omega)))<|cOp e115<|OV (ex_add rfl rfl (IntWalk.i64_in _ (by omega)))<|Xf fl57_1 rfl<|OV (EL ty54 rfl (H2.cell (i := 0) rfl rfl))<|OQ (EC gf93 rfl) (load_a s.p (s.index + s.entries.length + 1) A1 k1 s.votes ok _ (hv1.toV H2 k0) (by omega)) ?_
 rintro _ w3 ⟨v, e, rfl, hans, Hd⟩
 have H3 := H2.callN Hd
 rw [← chk_ld (by omega) (by omega) hent] at hans
 refine cOp e115<|Xm rfl<|Xe rfl rfl<|Xe rfl rfl<|Xa rfl<|cOp e115<|Xa rfl<|Xr e115<|J1<|Rq<|Xm rfl<|OT (ex_neq rfl rfl) (fun hp113 => ?_) (fun hp113 => ?_)
 refine Xr e115<|J3 rfl<|Rq<|Xa rfl<|Xa rfl<|Xr e115<|J5<|FN2 rfl rfl rfl<|⟨_, _, rfl, Ans.no (by cases hc : chk s with | false => rfl | true => exact absurd (hans.1 hc) hp113), H3.noRows⟩
 refine Xr e115<|J4 rfl<|J6<|Rq<|Xm rfl<|Xa rfl<|Xa rfl<|Xr e115<|J5<|FN2 rfl rfl rfl<|⟨_, _, rfl, Ans.ok (by cases hc : chk s with | true => rfl | false => have := hans.2 hc; omega), H3.noRows⟩
set_option maxRecDepth 100000 in
set_option maxHeartbeats 4000000 in
theorem check_p (s : Sv) (A1 : Option Addr) (k1 : Nat) (A2 : Option Addr) (k2 : Nat) (A3 : Option Addr) (k3 : Nat) (ok : Nat → Prop) (w0 : World) (hv1 : Sl (VtR w0 ok) 4 w0 ok A1 s.votes) (hv2 : Bs w0 ok A2 s.image) (hv3 : Sl (EnR w0 ok) 2 w0 ok A3 s.entries) (hvl : s.votes.length ≤ 1000000000000000000) (hel2 : s.entries.length ≤ 1000000000000000000) : Does Tryz.prog 36 #[.int .i64 1, .int .i64 5, .agg [.int .i64 s.p.r, .int .i64 s.p.n, .slice A1 s.votes.length k1, .int .i64 s.index, .slice A2 s.image.length k2, .slice A3 s.entries.length k3].toArray] w0 (fun r w' => ∃ e : Int, r = .int .i64 e ∧ Ans (chk s) e ∧ Hp w0 w' [] []) := by
 refine does_of Tryz.func36 Tryz.ntmps36 rfl<|cR e17 ?_
 have H := Hp.refl w0
 refine Rq<|ops_box rfl rfl H<|fun w1 g1 H1 hg1=>Xa rfl<|Xr e17<|Rq<|Xm rfl<|Xm rfl<|OV (EN ty57 rfl (vs := [.int .i64 s.p.r, .int .i64 s.p.n, .slice A1 s.votes.length k1, .int .i64 s.index, .slice A2 s.image.length k2, .slice A3 s.entries.length k3]) rfl (H1.cellsR (i := 0) rfl rfl))<|OQ (EC gf65 rfl) (load_p s A1 k1 A2 k2 A3 k3 ok _ (hv1.toV H1 k0) (hv2.to H1 k0) (hv3.toE H1 k0) hvl hel2) ?_
 rintro _ w2 ⟨v, e, rfl, hans, Hd⟩
 have H2 := H1.callN Hd
 refine cOp e17<|Xm rfl<|Xe rfl rfl<|Xe rfl rfl<|Xa rfl<|cOp e17<|Xa rfl<|Xr e17<|Rq<|Xm rfl<|Xa rfl<|Xr e17<|J5<|FN1 rfl rfl<|⟨_, rfl, hans, H2.noRows⟩
end Go.Proofs.YtbninklfoogmdaaGreat
