/-
  Parts of the walk, one behind the other.
-/
import Derived.Test.YtbninklfoogmdaaGreatK4
import Derived.WalkKit
import Derived.ProofKit
import Derived.OpenShut
import Derived.Carry
import Derived.SizedLaws
/- Walks of layer 2, printed by wip/gen/codec.py. -/
namespace Go.Proofs.YtbninklfoogmdaaGreat
open Go Go.RowKit
set_option linter.unusedVariables false
attribute [local irreducible] Still Ops Does Cd
set_option maxRecDepth 100000 in
set_option maxHeartbeats 4000000 in
theorem copied_a (x : Vt) (Ax : Option Addr) (kx : Nat) (ok : Nat → Prop) (w0 : World) (hb : Bs w0 ok Ax x.val) : Does Tryz.prog 108 #[.agg [.int .i64 x.slot, .int .i64 x.b.r, .int .i64 x.b.n, .slice Ax x.val.length kx].toArray] w0 (fun _ w' => Hp w0 w' [] []) := by
 refine does_of Tryz.func108 Tryz.ntmps108 rfl<|cR e8 ?_
 have H := Hp.refl w0
 refine Rq<|ops_box rfl rfl H<|fun w1 g1 H1 hg1=>OA ty39 H1<|fun w2 g2 H2 hg2=>Xr e8<|Rq<|Xf fl39_2 rfl<|OV (EL ty37 rfl (H2.cell (i := 0) rfl rfl))<|ops_call_own (EC gf51 rfl) (clone_any Ax x.val kx _ (hb.1.to0 H2) (by have := hb.2.2; omega))<|fun w3 gb cb sb hmb hcb hgb Hc=>have H3:=H2.call0 Hc;Xf fl39_2 rfl<|cOp e8<|OW ty37 H3 0 rfl rfl rfl rfl (by first | decide | (simp; done) | simp [putAt]) rfl<|fun w4 H4=>Xr e8<|Rq<|OV (EN ty39 rfl (vs := [.int .i64 x.slot, .int .i64 x.b.r, .int .i64 x.b.n, .slice (hd gb) x.val.length cb]) rfl (H4.cellsR (i := 0) rfl rfl))<|OS ty39 H4 1 rfl rfl rfl rfl rfl (by first | decide | (simp; done) | simp [putAt]) rfl<|fun w5 H5=>Xr e8<|J5<|fin_cell rfl ty39 (cs := [.int .i64 x.slot, .int .i64 x.b.r, .int .i64 x.b.n, .slice (hd gb) x.val.length cb]) rfl rfl (H5.cellsR (i := 1) rfl rfl)<|H5.noRows
set_option maxRecDepth 100000 in
set_option maxHeartbeats 16000000 in
theorem load_a (p : Bal) (first : Int) (A : Option Addr) (k : Nat) (l : List Vt) (ok : Nat → Prop) (w0 : World) (hl : Sl (VtR w0 ok) 4 w0 ok A l) (hn : l.length ≤ 1000000000000000000) : Does Tryz.prog 93 #[.agg [.int .i64 p.r, .int .i64 p.n].toArray, .int .i64 first, .slice A l.length k] w0 (fun r w' => ∃ (v : Value) (e : Int), r = .tuple #[v, .int .i64 e] ∧ Ans (ldOk p first l) e ∧ Hp w0 w' [] []) := by
 refine does_of Tryz.func93 Tryz.ntmps93 rfl<|cR e82 ?_
 have H := Hp.refl w0
 obtain ⟨ps, hp, hr, ha, h2⟩ := hl
 have hlen := h2.len
 refine Rq<|ops_box rfl rfl H<|fun w1 gp H1 _=>Xa rfl<|Xa rfl<|Xr e82<|J1<|Rq<|Xm rfl<|OT (ex_lss rfl rfl) (fun hp13 => ?_) (fun hp13 => ?_)
 refine Xm rfl<|cOp e82<|OZ rfl<|OZ rfl<|Xt rfl rfl<|Xm rfl<|cOp e82<|OZ rfl<|OZ rfl<|cOp e82<|OZ rfl<|OZ rfl<|cOp e82<|OZ rfl<|OZ rfl<|cOp e82<|OZ rfl<|OZ rfl<|Xt rfl rfl<|Xr e82<|J3 rfl<|Rq<|Xa rfl<|Xa rfl<|Xr e82<|J5<|FN2 rfl rfl rfl<|⟨_, _, rfl, Ans.no (ld_f1 (by omega)), H1.noRows⟩
 refine Xm rfl<|cOp e82<|OY rfl<|Xm rfl<|OY rfl<|OT (ex_gtr rfl rfl) (fun hp16 => ?_) (fun hp16 => ?_)
 refine Xu rfl rfl<|Xm rfl<|cOp e82<|OZ rfl<|OZ rfl<|cOp e82<|OZ rfl<|OZ rfl<|cOp e82<|OZ rfl<|OZ rfl<|cOp e82<|OZ rfl<|OZ rfl<|Xt rfl rfl<|Xr e82<|J3 rfl<|Rq<|Xa rfl<|Xa rfl<|Xr e82<|J5<|FN2 rfl rfl rfl<|⟨_, _, rfl, Ans.no (ld_f1 (by omega)), H1.noRows⟩
 refine Xu rfl rfl<|Xm rfl<|cOp e82<|OY rfl<|OV (EN ty36 rfl (vs := [.int .i64 p.r, .int .i64 p.n]) rfl (H1.cellsR (i := 0) rfl rfl))<|OY rfl<|OV (EB ty36 pl36 rfl rfl)<|cOp e82<|OY rfl<|OT (ex_neq_bal rfl rfl) (fun hp21 => ?_) (fun hp21 => ?_)
 refine OY rfl<|Xm rfl<|OY rfl<|OV (EN ty36 rfl (vs := [.int .i64 p.r, .int .i64 p.n]) rfl (H1.cellsR (i := 0) rfl rfl))<|cOp e82<|OY rfl<|OX (EC gf107 rfl) (real_a _ _) (fun hp24 w2 Hd => ?_) (fun hp24 w2 Hd => ?_)
 have H2 := H1.callN Hd
 refine OY rfl<|Xn rfl<|OY rfl<|Xt rfl rfl<|Xu rfl rfl<|Xr e82<|J4 rfl<|J6<|Rq<|OV (EN ty36 rfl (vs := [.int .i64 p.r, .int .i64 p.n]) rfl (H2.cellsR (i := 0) rfl rfl))<|Xm rfl<|ops_makeMap H2<|fun w3 gm H3 hgm hgm0=>have hIM:=IntMap.new hgm;?_
 have hgmw : w0.heap.size ≤ gm := by have := H2.size; omega
 refine OV (EB ty141 pl141 rfl rfl)<|cOp e82 ?_
 have HB := H3
 have H3 := HB.here
 refine ops_box rfl rfl H3<|fun w4 ga H4 _=>?_
 have hIM := hIM.to H4 (fun hb => by obtain ⟨arr, T, z, hh⟩ := bl_cells HB gm hb; exact hIM.not _ _ _ hh)
 replace H4 := HB.all H4
 refine Xa rfl<|Xr e82<|Rq<|Xm rfl<|Xa rfl<|Xr e82<|J1<|Rq<|Xm rfl<|OV (ES Tryz.underlying54 rfl)<|Xm rfl<|Xr e82<|J7<|run_loop (fun nQ lQ w => ∃ (i : Nat) (y m : Int), l.length - i = nQ ∧ Fits [some (.agg [.int .i64 p.r, .int .i64 p.n].toArray), some (.int .i64 first), none, some (.pointer (some ⟨gp, 0, none⟩)), none, none, none, none, some (.pointer (some ⟨ga, 0, none⟩)), some (.int .i64 m), none, none, none, none, none, none, none, none, none, none, none, none, none, none, none, none, none, none, none, none, none, none, none, none, some (.slice A l.length k), some (.int .i64 (l.length : Int)), some (.int .i64 y), none, none, none, none, none, none, none, none, none, none, none, none, none, none, none, none, none, none, none, none, none, none, none, none, none, none, none, none, none, none, none, none, none, none, none, none, none, none, none, none, none, none, none, none, none] lQ ∧ y = (i : Int) ∧ i ≤ l.length ∧ vtsOk p first first l = vtsOk p first m (l.drop i) ∧ first ≤ m ∧ IntMap w gm ∧ Hp w0 w [] [((some gp, 36, [.int .i64 p.r, .int .i64 p.n]) : Ent), (some ga, 141, [.int .i64 p.r, .int .i64 p.n, .int .i64 first, .map (some gm)])]) (l.length) ?_ ?_
 exact ⟨0, _, first, rfl, (fs (fs (fn (fs (fn (fn (fn (fn (fs (fs (fn (fn (fn (fn (fn (fn (fn (fn (fn (fn (fn (fn (fn (fn (fn (fn (fn (fn (fn (fn (fn (fn (fn (fn (fs (fs (fs (fn (fn (fn (fn (fn (fn (fn (fn (fn (fn (fn (fn (fn (fn (fn (fn (fn (fn (fn (fn (fn (fn (fn (fn (fn (fn (fn (fn (fn (fn (fn (fn (fn (fn (fn (fn (fn (fn (fn (fn (fn (fn (fn (fn (fn f0)))))))))))))))))))))))))))))))))))))))))))))))))))))))))))))))))))))))))))))))))), rfl, Nat.zero_le _, rfl, Int.le_refl _, hIM, H4⟩
 rintro nQ lQ w5 ⟨i, y, m, rfl, hfit, rfl, hi, hinv, hfm, hIM, H5⟩
 obtain ⟨j, rfl⟩ := hfit.open
 refine cR e82 ?_
 clear hfit
 have HB := H5
 replace H5 := HB.here
 have hgmn : gm ∉ bl _ := fun hb => by obtain ⟨arr, T, z, hh⟩ := bl_cells HB gm hb; exact hIM.not _ _ _ hh
 refine Rq<|OT (ex_lss rfl rfl) (fun hp37 => ?_) (fun hp37 => ?_)
 have hil : i < l.length := by omega
 obtain ⟨x, hx⟩ := get_of hil
 obtain ⟨p1, hp1, hR⟩ := h2.get hx
 obtain ⟨Ax, kx, rfl, hbx⟩ := hR
 obtain ⟨a1, ha1⟩ := hr.some_ (by omega)
 subst ha1
 refine Xr e82<|J1<|J3 rfl<|J6<|J1<|J7<|Rq<|OV (EI Tryz.underlying54 ty39 rfl rfl rfl hil rfl)<|OV (EN ty39 rfl (vs := [.int .i64 x.slot, .int .i64 x.b.r, .int .i64 x.b.n, .slice Ax x.val.length kx]) rfl ((hr.to0 (HB.all H5)).elem hp hp1))<|OA ty39 H5<|fun w6 g6 H6 hg6=>OS ty39 H6 2 rfl rfl rfl rfl rfl (by first | decide | (simp; done) | simp [putAt]) rfl<|fun w7 H7=>Xr e82<|J1<|Rq<|Xf fl39_0 rfl<|OV (EL ty3 rfl (H7.cell (i := 2) rfl rfl))<|Xm rfl<|OT (ex_lss rfl rfl) (fun hp43 => ?_) (fun hp43 => ?_)
 refine Xm rfl<|cOp e82<|OZ rfl<|OZ rfl<|cOp e82<|OZ rfl<|OZ rfl<|cOp e82<|OZ rfl<|Xt rfl rfl<|Xm rfl<|cOp e82<|OZ rfl<|OZ rfl<|cOp e82<|OZ rfl<|OZ rfl<|Xt rfl rfl<|Xm rfl<|cOp e82<|OZ rfl<|OZ rfl<|cOp e82<|OZ rfl<|OZ rfl<|Xt rfl rfl<|Xm rfl<|cOp e82<|OZ rfl<|OZ rfl<|cOp e82<|OZ rfl<|OZ rfl<|Xt rfl rfl<|Xr e82<|J3 rfl<|Rq<|Xa rfl ?_
 refine Xa rfl<|Xr e82<|J5<|BR<|rnd_ret<|BR<|FN2 rfl rfl rfl<|⟨_, _, rfl, Ans.no (by rw [ld_v (by omega) (by omega), hinv]; exact vts_no hx fun hh => by omega), (HB.all H7).noRows⟩
 refine Xm rfl<|cOp e82<|OY rfl<|Xf fl39_0 rfl<|OY rfl<|OV (EL ty3 rfl (H7.cell (i := 2) rfl rfl))<|cOp e82<|OY rfl<|Xm rfl<|OY rfl<|OV (ex_add rfl rfl (IntWalk.i64_in _ (by omega)))<|cOp e82<|OY rfl<|OT (ex_geq rfl rfl) (fun hp49 => ?_) (fun hp49 => ?_)
 refine Xu rfl rfl<|Xm rfl<|cOp e82<|OZ rfl<|OZ rfl<|cOp e82<|OZ rfl<|OZ rfl<|Xt rfl rfl<|Xm rfl<|cOp e82<|OZ rfl<|OZ rfl<|cOp e82<|OZ rfl<|OZ rfl<|Xt rfl rfl<|Xm rfl<|cOp e82<|OZ rfl<|OZ rfl<|cOp e82<|OZ rfl<|OZ rfl<|Xt rfl rfl<|Xr e82<|J3 rfl<|Rq<|Xa rfl<|Xa rfl<|Xr e82<|J5<|BR<|rnd_ret<|BR<|FN2 rfl rfl rfl<|⟨_, _, rfl, Ans.no (by rw [ld_v (by omega) (by omega), hinv]; exact vts_no hx fun hh => by omega), (HB.all H7).noRows⟩
 refine Xu rfl rfl<|Xm rfl<|cOp e82<|OY rfl<|Xf fl39_1 rfl<|OY rfl<|OV (EN ty36 rfl (vs := [.int .i64 x.b.r, .int .i64 x.b.n]) rfl (H7.cellsR (i := 2) rfl rfl))<|cOp e82<|OY rfl<|OX (EC gf107 rfl) (real_a _ _) (fun hp54 w8 Hd => ?_) (fun hp54 w8 Hd => ?_)
 have H8 := H7.callN Hd
 refine OY rfl<|Xn rfl<|Xu rfl rfl<|Xm rfl<|cOp e82<|OY rfl<|OV (EN ty36 rfl (vs := [.int .i64 p.r, .int .i64 p.n]) rfl (H8.cellsR (i := 0) rfl rfl))<|OY rfl<|Xf fl39_1 rfl<|cOp e82<|OY rfl<|OV (EN ty36 rfl (vs := [.int .i64 x.b.r, .int .i64 x.b.n]) rfl (H8.cellsR (i := 2) rfl rfl))<|OY rfl<|OX (EC gf84 rfl) (less_b _ _ _) (fun hp61 w9 Hd => ?_) (fun hp61 w9 Hd => ?_)
 have H9 := H8.callN Hd
 refine Xu rfl rfl<|Xm rfl<|cOp e82<|OZ rfl<|OZ rfl<|cOp e82<|OZ rfl<|OZ rfl<|Xt rfl rfl<|Xr e82<|J3 rfl<|Rq<|Xa rfl<|Xa rfl<|Xr e82<|J5<|BR<|rnd_ret<|BR<|FN2 rfl rfl rfl<|⟨_, _, rfl, Ans.no (by rw [ld_v (by omega) (by omega), hinv]; exact vts_no hx fun hh => hh.2.2.2.2.1 hp61), (HB.all H9).noRows⟩
 have H9 := H8.callN Hd
 refine Xu rfl rfl<|Xm rfl<|cOp e82<|OY rfl<|Xf fl39_2 rfl<|OY rfl<|OV (EL ty37 rfl (H9.cell (i := 2) rfl rfl))<|cOp e82<|OY rfl<|OV (ES Tryz.underlying37 rfl)<|OY rfl<|OT (ex_gtr rfl rfl) (fun hp67 => ?_) (fun hp67 => ?_)
 refine Xu rfl rfl<|Xr e82<|J3 rfl<|Rq<|Xa rfl<|Xa rfl<|Xr e82<|J5<|BR<|rnd_ret<|BR<|FN2 rfl rfl rfl<|⟨_, _, rfl, Ans.no (by rw [ld_v (by omega) (by omega), hinv]; exact vts_no hx fun hh => by omega), (HB.all H9).noRows⟩
 refine Xu rfl rfl<|Xr e82<|J4 rfl<|J6<|J1<|run_mixZ 8 [(true, 0), (true, 1), (true, 2), (true, 3), (true, 4), (true, 5), (true, 6), (false, 7), (false, 8)] H9 [0, 1, 2] mixed (by decide) (by kernel_rfl) ?_
 rintro w10 hw10
 have H10 := Hp.drew H9; rw [← hw10] at H10
 refine Zm rfl rfl<|Zc rfl rfl<|Zf rfl fl141_2 rfl<|MP rfl<|MV (fun wz hz => EL ty139 rfl (hz.cell (i := 1) rfl rfl))<|cZ e82<|Zf rfl fl39_0 rfl<|MP rfl<|MV (fun wz hz => EL ty3 rfl (hz.cell (i := 2) rfl rfl))<|MP rfl<|MV (fun wz hz => EN ty39 rfl (vs := [.int .i64 x.slot, .int .i64 x.b.r, .int .i64 x.b.n, .slice Ax x.val.length kx]) rfl (hz.cellsR (i := 2) rfl rfl))<|MO rfl<|OQ (EC gf108 rfl) (copied_a x Ax kx (fun _ => True) _ (hbx.to (HB.all H10) (fun _ _ _ => ⟨by simp, trivial⟩)))<|fun r w11 Hd=>have H11:=H10.callN Hd;OE<|⟨fun hne => H11.pick [0, 1, 2] (by decide), ?_⟩
 refine cZ e82<|MO rfl ?_
 have HW := HB.all H11
 refine ops_mapUpdate Tryz.underlying139 Tryz.underlying3 HW rfl rfl rfl (hIM.to H11 hgmn) hgmw<|fun w12 H12 hIM _=>?_
 have hgo := vts_go (p := p) (first := first) (m := m) hx ⟨by omega, by omega, hp54.1, hp54.2, hp61, by omega⟩
 refine OE ?_
 refine ⟨fun hne => absurd rfl hne, ?_⟩
 refine cZ e82<|ME<|cR e82<|J2<|Xf fl39_0 rfl<|OV (EL ty3 rfl (H12.cell (i := 2) rfl rfl))<|OV (ex_add rfl rfl (IntWalk.i64_in _ (by omega)))<|Xa rfl<|Xr e82<|run_nil (blk_normal ?_)
 refine J2<|OV (ex_add rfl rfl (IntWalk.i64_in _ (by omega)))<|Xm rfl<|Xr e82<|run_nil (rnd_normal ?_)
 exact ⟨l.length - (i + 1), by omega, i + 1, _, x.slot + 1, rfl, (fs (fs (fn (fs (fn (fn (fn (fn (fs (fs (fn (fn (fn (fn (fn (fn (fn (fn (fn (fn (fn (fn (fn (fn (fn (fn (fn (fn (fn (fn (fn (fn (fn (fn (fs (fs (fs (fn (fn (fn (fn (fn (fn (fn (fn (fn (fn (fn (fn (fn (fn (fn (fn (fn (fn (fn (fn (fn (fn (fn (fn (fn (fn (fn (fn (fn (fn (fn (fn (fn (fn (fn (fn (fn (fn (fn (fn (fn (fn (fn (fn (fn f0)))))))))))))))))))))))))))))))))))))))))))))))))))))))))))))))))))))))))))))))))), by omega, by omega, by rw [hinv, hgo], by omega, hIM, H12.pick [0, 1] (by decide)⟩
 have H8 := H7.callN Hd
 refine OY rfl<|Xn rfl<|Xu rfl rfl<|Xm rfl<|cOp e82<|OZ rfl<|OZ rfl<|cOp e82<|OZ rfl<|OZ rfl<|Xt rfl rfl<|Xm rfl<|cOp e82<|OZ rfl<|OZ rfl<|cOp e82<|OZ rfl<|OZ rfl<|Xt rfl rfl<|Xr e82<|J3 rfl<|Rq<|Xa rfl<|Xa rfl<|Xr e82<|J5<|BR<|rnd_ret<|BR<|FN2 rfl rfl rfl<|⟨_, _, rfl, Ans.no (by rw [ld_v (by omega) (by omega), hinv]; exact vts_no hx fun hh => hp54 ⟨hh.2.2.1, hh.2.2.2.1⟩), (HB.all H8).noRows⟩
 obtain rfl : i = l.length := by omega
 refine Xr e82<|J1<|J4 rfl<|J8<|rnd_exit<|blk_exit<|Rq<|Xm rfl<|Xa rfl<|Xa rfl<|Xr e82<|J5<|FN2 rfl rfl rfl<|⟨_, _, rfl, Ans.ok (by rw [ld_v (by omega) (by omega), hinv]; exact vts_end), (HB.all H5).noRows⟩
 have H2 := H1.callN Hd
 refine OY rfl<|Xn rfl<|OY rfl<|Xt rfl rfl<|Xu rfl rfl<|Xr e82<|J3 rfl<|Rq<|Xa rfl<|Xa rfl<|Xr e82<|J5<|FN2 rfl rfl rfl<|⟨_, _, rfl, Ans.no (ld_f2 (by omega)), H2.noRows⟩
 refine OY rfl<|Xm rfl<|OZ rfl<|cOp e82<|OZ rfl<|OZ rfl<|cOp e82<|OY rfl<|Xu rfl rfl<|Xu rfl rfl<|Xr e82<|J4 rfl<|J6<|Rq<|OV (EN ty36 rfl (vs := [.int .i64 p.r, .int .i64 p.n]) rfl (H1.cellsR (i := 0) rfl rfl))<|Xm rfl<|ops_makeMap H1<|fun w2 gm H2 hgm hgm0=>have hIM:=IntMap.new hgm;?_
 have hgmw : w0.heap.size ≤ gm := by have := H1.size; omega
 refine OV (EB ty141 pl141 rfl rfl)<|cOp e82 ?_
 have HB := H2
 have H2 := HB.here
 refine ops_box rfl rfl H2<|fun w3 ga H3 _=>?_
 have hIM := hIM.to H3 (fun hb => by obtain ⟨arr, T, z, hh⟩ := bl_cells HB gm hb; exact hIM.not _ _ _ hh)
 replace H3 := HB.all H3
 refine Xa rfl<|Xr e82<|Rq<|Xm rfl<|Xa rfl<|Xr e82<|J1<|Rq<|Xm rfl<|OV (ES Tryz.underlying54 rfl)<|Xm rfl<|Xr e82<|J7<|run_loop (fun nQ lQ w => ∃ (i : Nat) (y m : Int), l.length - i = nQ ∧ Fits [some (.agg [.int .i64 p.r, .int .i64 p.n].toArray), some (.int .i64 first), none, some (.pointer (some ⟨gp, 0, none⟩)), none, none, none, none, some (.pointer (some ⟨ga, 0, none⟩)), some (.int .i64 m), none, none, none, none, none, none, none, none, none, none, none, none, none, none, none, none, none, none, none, none, none, none, none, none, some (.slice A l.length k), some (.int .i64 (l.length : Int)), some (.int .i64 y), none, none, none, none, none, none, none, none, none, none, none, none, none, none, none, none, none, none, none, none, none, none, none, none, none, none, none, none, none, none, none, none, none, none, none, none, none, none, none, none, none, none, none, none, none] lQ ∧ y = (i : Int) ∧ i ≤ l.length ∧ vtsOk p first first l = vtsOk p first m (l.drop i) ∧ first ≤ m ∧ IntMap w gm ∧ Hp w0 w [] [((some gp, 36, [.int .i64 p.r, .int .i64 p.n]) : Ent), (some ga, 141, [.int .i64 p.r, .int .i64 p.n, .int .i64 first, .map (some gm)])]) (l.length) ?_ ?_
 exact ⟨0, _, first, rfl, (fs (fs (fn (fs (fn (fn (fn (fn (fs (fs (fn (fn (fn (fn (fn (fn (fn (fn (fn (fn (fn (fn (fn (fn (fn (fn (fn (fn (fn (fn (fn (fn (fn (fn (fs (fs (fs (fn (fn (fn (fn (fn (fn (fn (fn (fn (fn (fn (fn (fn (fn (fn (fn (fn (fn (fn (fn (fn (fn (fn (fn (fn (fn (fn (fn (fn (fn (fn (fn (fn (fn (fn (fn (fn (fn (fn (fn (fn (fn (fn (fn (fn f0)))))))))))))))))))))))))))))))))))))))))))))))))))))))))))))))))))))))))))))))))), rfl, Nat.zero_le _, rfl, Int.le_refl _, hIM, H3⟩
 rintro nQ lQ w4 ⟨i, y, m, rfl, hfit, rfl, hi, hinv, hfm, hIM, H4⟩
 obtain ⟨j, rfl⟩ := hfit.open
 refine cR e82 ?_
 clear hfit
 have HB := H4
 replace H4 := HB.here
 have hgmn : gm ∉ bl _ := fun hb => by obtain ⟨arr, T, z, hh⟩ := bl_cells HB gm hb; exact hIM.not _ _ _ hh
 refine Rq<|OT (ex_lss rfl rfl) (fun hp37 => ?_) (fun hp37 => ?_)
 have hil : i < l.length := by omega
 obtain ⟨x, hx⟩ := get_of hil
 obtain ⟨p1, hp1, hR⟩ := h2.get hx
 obtain ⟨Ax, kx, rfl, hbx⟩ := hR
 obtain ⟨a1, ha1⟩ := hr.some_ (by omega)
 subst ha1
 refine Xr e82<|J1<|J3 rfl<|J6<|J1<|J7<|Rq<|OV (EI Tryz.underlying54 ty39 rfl rfl rfl hil rfl)<|OV (EN ty39 rfl (vs := [.int .i64 x.slot, .int .i64 x.b.r, .int .i64 x.b.n, .slice Ax x.val.length kx]) rfl ((hr.to0 (HB.all H4)).elem hp hp1))<|OA ty39 H4<|fun w5 g5 H5 hg5=>OS ty39 H5 2 rfl rfl rfl rfl rfl (by first | decide | (simp; done) | simp [putAt]) rfl<|fun w6 H6=>Xr e82<|J1<|Rq<|Xf fl39_0 rfl<|OV (EL ty3 rfl (H6.cell (i := 2) rfl rfl))<|Xm rfl<|OT (ex_lss rfl rfl) (fun hp43 => ?_) (fun hp43 => ?_)
 refine Xm rfl<|cOp e82<|OZ rfl<|OZ rfl<|cOp e82<|OZ rfl<|OZ rfl<|cOp e82<|OZ rfl<|Xt rfl rfl<|Xm rfl<|cOp e82<|OZ rfl<|OZ rfl<|cOp e82<|OZ rfl<|OZ rfl<|Xt rfl rfl<|Xm rfl<|cOp e82<|OZ rfl<|OZ rfl<|cOp e82<|OZ rfl<|OZ rfl<|Xt rfl rfl<|Xm rfl<|cOp e82<|OZ rfl<|OZ rfl<|cOp e82<|OZ rfl<|OZ rfl<|Xt rfl rfl<|Xr e82<|J3 rfl<|Rq<|Xa rfl ?_
 refine Xa rfl<|Xr e82<|J5<|BR<|rnd_ret<|BR<|FN2 rfl rfl rfl<|⟨_, _, rfl, Ans.no (by rw [ld_v (by omega) (by omega), hinv]; exact vts_no hx fun hh => by omega), (HB.all H6).noRows⟩
 refine Xm rfl<|cOp e82<|OY rfl<|Xf fl39_0 rfl<|OY rfl<|OV (EL ty3 rfl (H6.cell (i := 2) rfl rfl))<|cOp e82<|OY rfl<|Xm rfl<|OY rfl<|OV (ex_add rfl rfl (IntWalk.i64_in _ (by omega)))<|cOp e82<|OY rfl<|OT (ex_geq rfl rfl) (fun hp49 => ?_) (fun hp49 => ?_)
 refine Xu rfl rfl<|Xm rfl<|cOp e82<|OZ rfl<|OZ rfl<|cOp e82<|OZ rfl<|OZ rfl<|Xt rfl rfl<|Xm rfl<|cOp e82<|OZ rfl<|OZ rfl<|cOp e82<|OZ rfl<|OZ rfl<|Xt rfl rfl<|Xm rfl<|cOp e82<|OZ rfl<|OZ rfl<|cOp e82<|OZ rfl<|OZ rfl<|Xt rfl rfl<|Xr e82<|J3 rfl<|Rq<|Xa rfl<|Xa rfl<|Xr e82<|J5<|BR<|rnd_ret<|BR<|FN2 rfl rfl rfl<|⟨_, _, rfl, Ans.no (by rw [ld_v (by omega) (by omega), hinv]; exact vts_no hx fun hh => by omega), (HB.all H6).noRows⟩
 refine Xu rfl rfl<|Xm rfl<|cOp e82<|OY rfl<|Xf fl39_1 rfl<|OY rfl<|OV (EN ty36 rfl (vs := [.int .i64 x.b.r, .int .i64 x.b.n]) rfl (H6.cellsR (i := 2) rfl rfl))<|cOp e82<|OY rfl<|OX (EC gf107 rfl) (real_a _ _) (fun hp54 w7 Hd => ?_) (fun hp54 w7 Hd => ?_)
 have H7 := H6.callN Hd
 refine OY rfl<|Xn rfl<|Xu rfl rfl<|Xm rfl<|cOp e82<|OY rfl<|OV (EN ty36 rfl (vs := [.int .i64 p.r, .int .i64 p.n]) rfl (H7.cellsR (i := 0) rfl rfl))<|OY rfl<|Xf fl39_1 rfl<|cOp e82<|OY rfl<|OV (EN ty36 rfl (vs := [.int .i64 x.b.r, .int .i64 x.b.n]) rfl (H7.cellsR (i := 2) rfl rfl))<|OY rfl<|OX (EC gf84 rfl) (less_b _ _ _) (fun hp61 w8 Hd => ?_) (fun hp61 w8 Hd => ?_)
 have H8 := H7.callN Hd
 refine Xu rfl rfl<|Xm rfl<|cOp e82<|OZ rfl<|OZ rfl<|cOp e82<|OZ rfl<|OZ rfl<|Xt rfl rfl<|Xr e82<|J3 rfl<|Rq<|Xa rfl<|Xa rfl<|Xr e82<|J5<|BR<|rnd_ret<|BR<|FN2 rfl rfl rfl<|⟨_, _, rfl, Ans.no (by rw [ld_v (by omega) (by omega), hinv]; exact vts_no hx fun hh => hh.2.2.2.2.1 hp61), (HB.all H8).noRows⟩
 have H8 := H7.callN Hd
 refine Xu rfl rfl<|Xm rfl<|cOp e82<|OY rfl<|Xf fl39_2 rfl<|OY rfl<|OV (EL ty37 rfl (H8.cell (i := 2) rfl rfl))<|cOp e82<|OY rfl<|OV (ES Tryz.underlying37 rfl)<|OY rfl<|OT (ex_gtr rfl rfl) (fun hp67 => ?_) (fun hp67 => ?_)
 refine Xu rfl rfl<|Xr e82<|J3 rfl<|Rq<|Xa rfl<|Xa rfl<|Xr e82<|J5<|BR<|rnd_ret<|BR<|FN2 rfl rfl rfl<|⟨_, _, rfl, Ans.no (by rw [ld_v (by omega) (by omega), hinv]; exact vts_no hx fun hh => by omega), (HB.all H8).noRows⟩
 refine Xu rfl rfl<|Xr e82<|J4 rfl<|J6<|J1<|run_mixZ 8 [(true, 0), (true, 1), (true, 2), (true, 3), (true, 4), (true, 5), (true, 6), (false, 7), (false, 8)] H8 [0, 1, 2] mixed (by decide) (by kernel_rfl) ?_
 rintro w9 hw9
 have H9 := Hp.drew H8; rw [← hw9] at H9
 refine Zm rfl rfl<|Zc rfl rfl<|Zf rfl fl141_2 rfl<|MP rfl<|MV (fun wz hz => EL ty139 rfl (hz.cell (i := 1) rfl rfl))<|cZ e82<|Zf rfl fl39_0 rfl<|MP rfl<|MV (fun wz hz => EL ty3 rfl (hz.cell (i := 2) rfl rfl))<|MP rfl<|MV (fun wz hz => EN ty39 rfl (vs := [.int .i64 x.slot, .int .i64 x.b.r, .int .i64 x.b.n, .slice Ax x.val.length kx]) rfl (hz.cellsR (i := 2) rfl rfl))<|MO rfl<|OQ (EC gf108 rfl) (copied_a x Ax kx (fun _ => True) _ (hbx.to (HB.all H9) (fun _ _ _ => ⟨by simp, trivial⟩)))<|fun r w10 Hd=>have H10:=H9.callN Hd;OE<|⟨fun hne => H10.pick [0, 1, 2] (by decide), ?_⟩
 refine cZ e82<|MO rfl ?_
 have HW := HB.all H10
 refine ops_mapUpdate Tryz.underlying139 Tryz.underlying3 HW rfl rfl rfl (hIM.to H10 hgmn) hgmw<|fun w11 H11 hIM _=>?_
 have hgo := vts_go (p := p) (first := first) (m := m) hx ⟨by omega, by omega, hp54.1, hp54.2, hp61, by omega⟩
 refine OE ?_
 refine ⟨fun hne => absurd rfl hne, ?_⟩
 refine cZ e82<|ME<|cR e82<|J2<|Xf fl39_0 rfl<|OV (EL ty3 rfl (H11.cell (i := 2) rfl rfl))<|OV (ex_add rfl rfl (IntWalk.i64_in _ (by omega)))<|Xa rfl<|Xr e82<|run_nil (blk_normal ?_)
 refine J2<|OV (ex_add rfl rfl (IntWalk.i64_in _ (by omega)))<|Xm rfl<|Xr e82<|run_nil (rnd_normal ?_)
 exact ⟨l.length - (i + 1), by omega, i + 1, _, x.slot + 1, rfl, (fs (fs (fn (fs (fn (fn (fn (fn (fs (fs (fn (fn (fn (fn (fn (fn (fn (fn (fn (fn (fn (fn (fn (fn (fn (fn (fn (fn (fn (fn (fn (fn (fn (fn (fs (fs (fs (fn (fn (fn (fn (fn (fn (fn (fn (fn (fn (fn (fn (fn (fn (fn (fn (fn (fn (fn (fn (fn (fn (fn (fn (fn (fn (fn (fn (fn (fn (fn (fn (fn (fn (fn (fn (fn (fn (fn (fn (fn (fn (fn (fn (fn f0)))))))))))))))))))))))))))))))))))))))))))))))))))))))))))))))))))))))))))))))))), by omega, by omega, by rw [hinv, hgo], by omega, hIM, H11.pick [0, 1] (by decide)⟩
 have H7 := H6.callN Hd
 refine OY rfl<|Xn rfl<|Xu rfl rfl<|Xm rfl<|cOp e82<|OZ rfl<|OZ rfl<|cOp e82<|OZ rfl<|OZ rfl<|Xt rfl rfl<|Xm rfl<|cOp e82<|OZ rfl<|OZ rfl<|cOp e82<|OZ rfl<|OZ rfl<|Xt rfl rfl<|Xr e82<|J3 rfl<|Rq<|Xa rfl<|Xa rfl<|Xr e82<|J5<|BR<|rnd_ret<|BR<|FN2 rfl rfl rfl<|⟨_, _, rfl, Ans.no (by rw [ld_v (by omega) (by omega), hinv]; exact vts_no hx fun hh => hp54 ⟨hh.2.2.1, hh.2.2.2.1⟩), (HB.all H7).noRows⟩
 obtain rfl : i = l.length := by omega
 refine Xr e82<|J1<|J4 rfl<|J8<|rnd_exit<|blk_exit<|Rq<|Xm rfl<|Xa rfl<|Xa rfl<|Xr e82<|J5<|FN2 rfl rfl rfl<|⟨_, _, rfl, Ans.ok (by rw [ld_v (by omega) (by omega), hinv]; exact vts_end), (HB.all H4).noRows⟩
set_option maxRecDepth 100000 in
set_option maxHeartbeats 16000000 in
theorem load_p (s : Sv) (A1 : Option Addr) (k1 : Nat) (A2 : Option Addr) (k2 : Nat) (A3 : Option Addr) (k3 : Nat) (ok : Nat → Prop) (w0 : World) (hv1 : Sl (VtR w0 ok) 4 w0 ok A1 s.votes) (hv2 : Bs w0 ok A2 s.image) (hv3 : Sl (EnR w0 ok) 2 w0 ok A3 s.entries) (hvl : s.votes.length ≤ 1000000000000000000) (hel2 : s.entries.length ≤ 1000000000000000000) : Does Tryz.prog 65 #[.int .i64 1, .int .i64 5, .agg [.int .i64 s.p.r, .int .i64 s.p.n, .slice A1 s.votes.length k1, .int .i64 s.index, .slice A2 s.image.length k2, .slice A3 s.entries.length k3].toArray] w0 (fun r w' => ∃ (v : Value) (e : Int), r = .tuple #[v, .int .i64 e] ∧ Ans (chk s) e ∧ Hp w0 w' [] []) := by
 refine does_of Tryz.func65 Tryz.ntmps65 rfl<|cR e115 ?_
 have H := Hp.refl w0
 obtain ⟨pe, hpe, hre, hae, he2⟩ := id hv3
 have hel := he2.len
 refine Rq<|ops_box rfl rfl H<|fun w1 gs H1 _=>Xa rfl<|Xa rfl<|Xr e115<|J1<|Rq<|Xm rfl<|OT1 (ex_neq rfl rfl) (by decide)<|Xm rfl<|cOp e115<|OY rfl<|Xm rfl<|OY rfl<|OT1 (ex_neq rfl rfl) (by decide)<|Xt rfl rfl<|Xm rfl<|cOp e115<|OY rfl<|Xm rfl<|OY rfl<|OT0 (ex_neq rfl rfl) (by decide)<|Xt rfl rfl<|Xm rfl<|cOp e115<|OY rfl<|Xm rfl<|OY rfl<|OT0 (ex_lss rfl rfl) (by decide)<|Xu rfl rfl<|Xm rfl<|cOp e115<|OY rfl<|Xm rfl<|OY rfl<|Xm rfl ?_
 refine cOp e115<|OY rfl<|OT0 (ex_gtr rfl rfl) (by decide)<|Xu rfl rfl<|Xr e115<|J4 rfl<|J6<|J1<|Rq<|Xf fl57_0 rfl<|OV (EN ty36 rfl (vs := [.int .i64 s.p.r, .int .i64 s.p.n]) rfl (H1.cellsR (i := 0) rfl rfl))<|OV (EB ty36 pl36 rfl rfl)<|OT (ex_neq_bal rfl rfl) (fun hp34 => ?_) (fun hp34 => ?_)
 refine Xm rfl<|cOp e115<|OY rfl<|Xf fl57_0 rfl<|OY rfl<|OV (EN ty36 rfl (vs := [.int .i64 s.p.r, .int .i64 s.p.n]) rfl (H1.cellsR (i := 0) rfl rfl))<|cOp e115<|OY rfl<|Xm rfl<|OY rfl<|OX (EC gf92 rfl) (may_b _ _ _) (fun hp39 w2 Hd => ?_) (fun hp39 w2 Hd => ?_)
 have H2 := H1.callN Hd
 refine OY rfl<|Xn rfl<|Xt rfl rfl<|Xm rfl<|cOp e115<|OY rfl<|Xf fl57_2 rfl<|OY rfl<|OV (EL ty3 rfl (H2.cell (i := 0) rfl rfl))<|cOp e115<|OY rfl<|OT (ex_lss rfl rfl) (fun hp45 => ?_) (fun hp45 => ?_)
 refine Xu rfl rfl<|Xm rfl<|cOp e115<|OZ rfl<|OZ rfl<|cOp e115<|OZ rfl<|Xt rfl rfl<|Xm rfl<|cOp e115<|OZ rfl<|OZ rfl<|cOp e115<|OZ rfl<|OZ rfl<|cOp e115<|OZ rfl<|OZ rfl<|cOp e115<|OZ rfl<|OZ rfl<|cOp e115<|OZ rfl<|Xt rfl rfl<|Xm rfl<|cOp e115<|OZ rfl<|OZ rfl<|cOp e115<|OZ rfl<|OZ rfl<|Xt rfl rfl<|Xr e115<|J3 rfl<|Rq<|Xa rfl<|Xa rfl<|OE ?_
 refine cR e115<|J5<|FN2 rfl rfl rfl<|⟨_, _, rfl, Ans.no (chk_f2 (by omega)), H2.noRows⟩
 refine Xu rfl rfl<|Xm rfl<|cOp e115<|OY rfl<|Xf fl57_2 rfl<|OY rfl<|OV (EL ty3 rfl (H2.cell (i := 0) rfl rfl))<|cOp e115<|OY rfl<|OT (ex_gtr rfl rfl) (fun hp50 => ?_) (fun hp50 => ?_)
 refine Xu rfl rfl<|Xm rfl<|cOp e115<|OZ rfl<|OZ rfl<|cOp e115<|OZ rfl<|OZ rfl<|cOp e115<|OZ rfl<|OZ rfl<|cOp e115<|OZ rfl<|OZ rfl<|cOp e115<|OZ rfl<|Xt rfl rfl<|Xm rfl<|cOp e115<|OZ rfl<|OZ rfl<|cOp e115<|OZ rfl<|OZ rfl<|Xt rfl rfl<|Xr e115<|J3 rfl<|Rq<|Xa rfl<|Xa rfl<|Xr e115<|J5<|FN2 rfl rfl rfl<|⟨_, _, rfl, Ans.no (chk_f2 (by omega)), H2.noRows⟩
 refine Xu rfl rfl<|Xm rfl<|cOp e115<|OY rfl<|Xf fl57_2 rfl<|OY rfl<|OV (EL ty3 rfl (H2.cell (i := 0) rfl rfl))<|cOp e115<|OY rfl<|OT (ex_eql rfl rfl) (fun hp55 => ?_) (fun hp55 => ?_)
 refine OY rfl<|Xm rfl<|OY rfl<|Xf fl57_3 rfl<|cOp e115<|OY rfl<|OV (EL ty37 rfl (H2.cell (i := 0) rfl rfl))<|OY rfl<|OV (ES Tryz.underlying37 rfl)<|cOp e115<|OY rfl<|OT (ex_gtr rfl rfl) (fun hp60 => ?_) (fun hp60 => ?_)
 refine OY rfl<|Xt rfl rfl<|Xu rfl rfl<|Xm rfl<|cOp e115<|OZ rfl<|OZ rfl<|cOp e115<|OZ rfl<|OZ rfl<|Xt rfl rfl<|Xr e115<|J3 rfl<|Rq<|Xa rfl<|Xa rfl<|Xr e115<|J5<|FN2 rfl rfl rfl<|⟨_, _, rfl, Ans.no (chk_f2 (by omega)), H2.noRows⟩
 refine OY rfl<|Xt rfl rfl<|Xu rfl rfl<|Xm rfl<|cOp e115<|OY rfl<|Xf fl57_3 rfl<|OY rfl<|OV (EL ty37 rfl (H2.cell (i := 0) rfl rfl))<|cOp e115<|OY rfl<|OV (ES Tryz.underlying37 rfl)<|OY rfl<|OT (ex_gtr rfl rfl) (fun hp67 => ?_) (fun hp67 => ?_)
 refine Xu rfl rfl<|Xr e115<|J3 rfl<|Rq<|Xa rfl<|Xa rfl<|Xr e115<|J5<|FN2 rfl rfl rfl<|⟨_, _, rfl, Ans.no (chk_f2 (by omega)), H2.noRows⟩
 refine Xu rfl rfl<|Xr e115<|J4 rfl<|J6<|J1<|Rq<|Xf fl57_4 rfl<|OV (EL ty55 rfl (H2.cell (i := 0) rfl rfl))<|OV (ES Tryz.underlying55 rfl)<|Xm rfl<|Xr e115<|J7<|run_loop (fun nQ lQ w => ∃ (i : Nat) (y : Int), s.entries.length - i = nQ ∧ Fits [none, some (.int .i64 5), none, none, none, some (.pointer (some ⟨gs, 0, none⟩)), none, none, none, none, none, none, none, none, none, none, none, none, none, none, none, none, none, none, none, none, none, none, none, none, none, none, none, none, none, none, none, none, none, none, none, none, none, none, none, none, none, none, none, none, none, none, none, none, none, none, none, none, none, none, none, none, none, none, none, none, none, none, none, none, some (.slice A3 s.entries.length k3), some (.int .i64 (s.entries.length : Int)), some (.int .i64 y), none, none, none, none, none, none, none, none, none, none, none, none, none, none, none, none, none, none, none, none, none, none, none, none, none, none, none, none, none, none, none, none, none, none, none, none, none, none, none, none, none, none] lQ ∧ y = (i : Int) ∧ i ≤ s.entries.length ∧ entOk s.index s.entries = entOk (s.index + i) (s.entries.drop i) ∧ Hp w0 w [] [((some gs, 57, [.int .i64 s.p.r, .int .i64 s.p.n, .slice A1 s.votes.length k1, .int .i64 s.index, .slice A2 s.image.length k2, .slice A3 s.entries.length k3]) : Ent)]) (s.entries.length) ?_ ?_
 exact ⟨0, _, rfl, (fn (fs (fn (fn (fn (fs (fn (fn (fn (fn (fn (fn (fn (fn (fn (fn (fn (fn (fn (fn (fn (fn (fn (fn (fn (fn (fn (fn (fn (fn (fn (fn (fn (fn (fn (fn (fn (fn (fn (fn (fn (fn (fn (fn (fn (fn (fn (fn (fn (fn (fn (fn (fn (fn (fn (fn (fn (fn (fn (fn (fn (fn (fn (fn (fn (fn (fn (fn (fn (fn (fs (fs (fs (fn (fn (fn (fn (fn (fn (fn (fn (fn (fn (fn (fn (fn (fn (fn (fn (fn (fn (fn (fn (fn (fn (fn (fn (fn (fn (fn (fn (fn (fn (fn (fn (fn (fn (fn (fn (fn (fn (fn (fn (fn (fn f0))))))))))))))))))))))))))))))))))))))))))))))))))))))))))))))))))))))))))))))))))))))))))))))))))))))))))))))))))), rfl, Nat.zero_le _, by simp, H2⟩
 rintro nQ lQ w3 ⟨i, y, rfl, hfit, rfl, hi, hinv, H3⟩
 obtain ⟨j, rfl⟩ := hfit.open
 refine cR e115 ?_
 clear hfit
 refine Rq<|OT (ex_lss rfl rfl) (fun hp73 => ?_) (fun hp73 => ?_)
 have hil : i < s.entries.length := by omega
 obtain ⟨x, hx⟩ := get_of hil
 obtain ⟨p1, hp1, hR⟩ := he2.get hx
 obtain ⟨Ax, kx, rfl, hbx⟩ := hR
 obtain ⟨a1, ha1⟩ := hre.some_ (by omega)
 subst ha1
 refine Xr e115<|J1<|J3 rfl<|J6<|J1<|J7<|Rq<|Xm rfl<|OV (EI Tryz.underlying55 ty41 rfl rfl rfl hil rfl)<|OV (EN ty41 rfl (vs := [.int .i64 x.slot, .slice Ax x.val.length kx]) rfl ((hre.to0 H3).elem hpe hp1))<|OA ty41 H3<|fun w4 g4 H4 hg4=>cOp e115<|Xa rfl<|OS ty41 H4 1 rfl rfl rfl rfl rfl (by first | decide | (simp; done) | simp [putAt]) rfl<|fun w5 H5=>Xr e115<|Rq<|Xf fl41_0 rfl<|OV (EL ty3 rfl (H5.cell (i := 1) rfl rfl))<|Xf fl57_2 rfl<|OV (EL ty3 rfl (H5.cell (i := 0) rfl rfl))<|cOp e115<|OV (ex_add rfl rfl (IntWalk.i64_in _ (by omega)))<|Xm rfl<|OV (ex_add rfl rfl (IntWalk.i64_in _ (by omega)))<|OT (ex_neq rfl rfl) (fun hp84 => ?_) (fun hp84 => ?_)
 refine Xm rfl<|cOp e115<|OZ rfl<|OZ rfl<|cOp e115<|OZ rfl<|Xt rfl rfl<|Xm rfl<|cOp e115<|OZ rfl<|OZ rfl<|cOp e115<|OZ rfl<|OZ rfl<|Xt rfl rfl<|Xr e115<|J3 rfl<|Rq<|Xa rfl<|Xa rfl<|Xr e115<|J5<|BR<|rnd_ret<|BR<|FN2 rfl rfl rfl<|⟨_, _, rfl, Ans.no (chk_f3 (by rw [hinv]; exact ent_no hx fun hh => by omega)), H5.noRows⟩
 refine Xm rfl<|cOp e115<|OY rfl<|Xf fl41_0 rfl<|OY rfl<|OV (EL ty3 rfl (H5.cell (i := 1) rfl rfl))<|cOp e115<|OY rfl<|OT (ex_gtr rfl rfl) (fun hp88 => ?_) (fun hp88 => ?_)
 refine Xu rfl rfl<|Xm rfl<|cOp e115<|OZ rfl<|OZ rfl<|cOp e115<|OZ rfl<|OZ rfl<|Xt rfl rfl<|Xr e115<|J3 rfl<|Rq<|Xa rfl<|Xa rfl<|Xr e115<|J5<|BR<|rnd_ret<|BR<|FN2 rfl rfl rfl<|⟨_, _, rfl, Ans.no (chk_f3 (by rw [hinv]; exact ent_no hx fun hh => by omega)), H5.noRows⟩
 refine Xu rfl rfl<|Xm rfl<|cOp e115<|OY rfl<|Xf fl41_1 rfl<|OY rfl<|OV (EL ty37 rfl (H5.cell (i := 1) rfl rfl))<|cOp e115<|OY rfl<|OV (ES Tryz.underlying37 rfl)<|OY rfl<|OT (ex_gtr rfl rfl) (fun hp94 => ?_) (fun hp94 => ?_)
 refine Xu rfl rfl<|Xr e115<|J3 rfl<|Rq<|Xa rfl<|Xa rfl<|Xr e115<|J5<|BR<|rnd_ret<|BR<|FN2 rfl rfl rfl<|⟨_, _, rfl, Ans.no (chk_f3 (by rw [hinv]; exact ent_no hx fun hh => by omega)), H5.noRows⟩
 refine Xu rfl rfl<|Xr e115<|J4 rfl<|J6<|run_nil (blk_normal ?_)
 refine J2<|OV (ex_add rfl rfl (IntWalk.i64_in _ (by omega)))<|Xm rfl<|Xr e115<|run_nil (rnd_normal ?_)
 have hgo := ent_go (m := s.index + i) hx ⟨by omega, by omega, by omega⟩
 exact ⟨s.entries.length - (i + 1), by omega, i + 1, _, rfl, (fn (fs (fn (fn (fn (fs (fn (fn (fn (fn (fn (fn (fn (fn (fn (fn (fn (fn (fn (fn (fn (fn (fn (fn (fn (fn (fn (fn (fn (fn (fn (fn (fn (fn (fn (fn (fn (fn (fn (fn (fn (fn (fn (fn (fn (fn (fn (fn (fn (fn (fn (fn (fn (fn (fn (fn (fn (fn (fn (fn (fn (fn (fn (fn (fn (fn (fn (fn (fn (fn (fs (fs (fs (fn (fn (fn (fn (fn (fn (fn (fn (fn (fn (fn (fn (fn (fn (fn (fn (fn (fn (fn (fn (fn (fn (fn (fn (fn (fn (fn (fn (fn (fn (fn (fn (fn (fn (fn (fn (fn (fn (fn (fn (fn (fn f0))))))))))))))))))))))))))))))))))))))))))))))))))))))))))))))))))))))))))))))))))))))))))))))))))))))))))))))))))), by omega, by omega, by rw [hinv, hgo]; congr 1; omega, H5.pick [0] (by decide)⟩
 obtain rfl : i = s.entries.length := by omega
 have hent := hinv.trans ent_end
 refine Xr e115<|J1<|J4 rfl<|J8<|rnd_exit<|blk_exit<|Rq<|Xf fl57_0 rfl<|OV (EN ty36 rfl (vs := [.int .i64 s.p.r, .int .i64 s.p.n]) rfl (H3.cellsR (i := 0) rfl rfl))<|Xf fl57_2 rfl<|OV (EL ty3 rfl (H3.cell (i := 0) rfl rfl))<|cOp e115<|Xf fl57_4 rfl<|OV (EL ty55 rfl (H3.cell (i := 0) rfl rfl))<|OV (ES Tryz.underlying55 rfl)<|OV (ex_add rfl rfl (IntWalk.i64_in _ (by omega)))<|cOp e115<|OV (ex_add rfl rfl (IntWalk.i64_in _ (by omega)))<|Xf fl57_1 rfl<|OV (EL ty54 rfl (H3.cell (i := 0) rfl rfl))<|OQ (EC gf93 rfl) (load_a s.p (s.index + s.entries.length + 1) A1 k1 s.votes ok _ (hv1.toV H3 k0) (by omega)) ?_
 rintro _ w4 ⟨v, e, rfl, hans, Hd⟩
 have H4 := H3.callN Hd
 rw [← chk_ld (by omega) (by omega) hent] at hans
 refine cOp e115<|Xm rfl<|Xe rfl rfl<|Xe rfl rfl<|Xa rfl<|cOp e115<|Xa rfl<|Xr e115<|J1<|Rq<|Xm rfl<|OT (ex_neq rfl rfl) (fun hp113 => ?_) (fun hp113 => ?_)
 refine Xr e115<|J3 rfl<|Rq<|Xa rfl<|Xa rfl<|Xr e115<|J5<|FN2 rfl rfl rfl<|⟨_, _, rfl, Ans.no (by cases hc : chk s with | false => rfl | true => exact absurd (hans.1 hc) hp113), H4.noRows⟩
 refine Xr e115<|J4 rfl<|J6<|Rq<|Xm rfl<|Xa rfl<|Xa rfl<|Xr e115<|J5<|FN2 rfl rfl rfl<|⟨_, _, rfl, Ans.ok (by cases hc : chk s with | true => rfl | false => have := hans.2 hc; omega), H4.noRows⟩
 refine OY rfl<|Xm rfl<|OZ rfl<|cOp e115<|OZ rfl<|OZ rfl<|cOp e115<|OZ rfl<|OY rfl<|Xu rfl rfl<|Xu rfl rfl<|Xm rfl<|cOp e115<|OY rfl<|Xf fl57_3 rfl<|OY rfl<|OV (EL ty37 rfl (H2.cell (i := 0) rfl rfl))<|cOp e115<|OY rfl<|OV (ES Tryz.underlying37 rfl)<|OY rfl<|OT (ex_gtr rfl rfl) (fun hp67 => ?_) (fun hp67 => ?_)
 refine Xu rfl rfl<|Xr e115<|J3 rfl<|Rq<|Xa rfl<|Xa rfl<|Xr e115<|J5<|FN2 rfl rfl rfl<|⟨_, _, rfl, Ans.no (chk_f2 (by omega)), H2.noRows⟩
 refine Xu rfl rfl<|Xr e115<|J4 rfl<|J6<|J1<|Rq<|Xf fl57_4 rfl<|OV (EL ty55 rfl (H2.cell (i := 0) rfl rfl))<|OV (ES Tryz.underlying55 rfl)<|Xm rfl<|Xr e115<|J7<|run_loop (fun nQ lQ w => ∃ (i : Nat) (y : Int), s.entries.length - i = nQ ∧ Fits [none, some (.int .i64 5), none, none, none, some (.pointer (some ⟨gs, 0, none⟩)), none, none, none, none, none, none, none, none, none, none, none, none, none, none, none, none, none, none, none, none, none, none, none, none, none, none, none, none, none, none, none, none, none, none, none, none, none, none, none, none, none, none, none, none, none, none, none, none, none, none, none, none, none, none, none, none, none, none, none, none, none, none, none, none, some (.slice A3 s.entries.length k3), some (.int .i64 (s.entries.length : Int)), some (.int .i64 y), none, none, none, none, none, none, none, none, none, none, none, none, none, none, none, none, none, none, none, none, none, none, none, none, none, none, none, none, none, none, none, none, none, none, none, none, none, none, none, none, none, none] lQ ∧ y = (i : Int) ∧ i ≤ s.entries.length ∧ entOk s.index s.entries = entOk (s.index + i) (s.entries.drop i) ∧ Hp w0 w [] [((some gs, 57, [.int .i64 s.p.r, .int .i64 s.p.n, .slice A1 s.votes.length k1, .int .i64 s.index, .slice A2 s.image.length k2, .slice A3 s.entries.length k3]) : Ent)]) (s.entries.length) ?_ ?_
 exact ⟨0, _, rfl, (fn (fs (fn (fn (fn (fs (fn (fn (fn (fn (fn (fn (fn (fn (fn (fn (fn (fn (fn (fn (fn (fn (fn (fn (fn (fn (fn (fn (fn (fn (fn (fn (fn (fn (fn (fn (fn (fn (fn (fn (fn (fn (fn (fn (fn (fn (fn (fn (fn (fn (fn (fn (fn (fn (fn (fn (fn (fn (fn (fn (fn (fn (fn (fn (fn (fn (fn (fn (fn (fn (fs (fs (fs (fn (fn (fn (fn (fn (fn (fn (fn (fn (fn (fn (fn (fn (fn (fn (fn (fn (fn (fn (fn (fn (fn (fn (fn (fn (fn (fn (fn (fn (fn (fn (fn (fn (fn (fn (fn (fn (fn (fn (fn (fn (fn f0))))))))))))))))))))))))))))))))))))))))))))))))))))))))))))))))))))))))))))))))))))))))))))))))))))))))))))))))))), rfl, Nat.zero_le _, by simp, H2⟩
 rintro nQ lQ w3 ⟨i, y, rfl, hfit, rfl, hi, hinv, H3⟩
 obtain ⟨j, rfl⟩ := hfit.open
 refine cR e115 ?_
 clear hfit
 refine Rq<|OT (ex_lss rfl rfl) (fun hp73 => ?_) (fun hp73 => ?_)
 have hil : i < s.entries.length := by omega
 obtain ⟨x, hx⟩ := get_of hil
 obtain ⟨p1, hp1, hR⟩ := he2.get hx
 obtain ⟨Ax, kx, rfl, hbx⟩ := hR
 obtain ⟨a1, ha1⟩ := hre.some_ (by omega)
 subst ha1
 refine Xr e115<|J1<|J3 rfl<|J6<|J1<|J7<|Rq<|Xm rfl<|OV (EI Tryz.underlying55 ty41 rfl rfl rfl hil rfl)<|OV (EN ty41 rfl (vs := [.int .i64 x.slot, .slice Ax x.val.length kx]) rfl ((hre.to0 H3).elem hpe hp1))<|OA ty41 H3<|fun w4 g4 H4 hg4=>cOp e115<|Xa rfl<|OS ty41 H4 1 rfl rfl rfl rfl rfl (by first | decide | (simp; done) | simp [putAt]) rfl<|fun w5 H5=>Xr e115<|Rq<|Xf fl41_0 rfl<|OV (EL ty3 rfl (H5.cell (i := 1) rfl rfl))<|Xf fl57_2 rfl<|OV (EL ty3 rfl (H5.cell (i := 0) rfl rfl))<|cOp e115<|OV (ex_add rfl rfl (IntWalk.i64_in _ (by omega)))<|Xm rfl<|OV (ex_add rfl rfl (IntWalk.i64_in _ (by omega)))<|OT (ex_neq rfl rfl) (fun hp84 => ?_) (fun hp84 => ?_)
 refine Xm rfl<|cOp e115<|OZ rfl<|OZ rfl<|cOp e115<|OZ rfl<|Xt rfl rfl<|Xm rfl<|cOp e115<|OZ rfl<|OZ rfl<|cOp e115<|OZ rfl<|OZ rfl<|Xt rfl rfl<|Xr e115<|J3 rfl<|Rq<|Xa rfl<|Xa rfl<|Xr e115<|J5<|BR<|rnd_ret<|BR<|FN2 rfl rfl rfl<|⟨_, _, rfl, Ans.no (chk_f3 (by rw [hinv]; exact ent_no hx fun hh => by omega)), H5.noRows⟩
 refine Xm rfl<|cOp e115<|OY rfl<|Xf fl41_0 rfl<|OY rfl<|OV (EL ty3 rfl (H5.cell (i := 1) rfl rfl))<|cOp e115<|OY rfl<|OT (ex_gtr rfl rfl) (fun hp88 => ?_) (fun hp88 => ?_)
 refine Xu rfl rfl<|Xm rfl<|cOp e115<|OZ rfl<|OZ rfl<|cOp e115<|OZ rfl<|OZ rfl<|Xt rfl rfl<|Xr e115<|J3 rfl<|Rq<|Xa rfl<|Xa rfl<|Xr e115<|J5<|BR<|rnd_ret<|BR<|FN2 rfl rfl rfl<|⟨_, _, rfl, Ans.no (chk_f3 (by rw [hinv]; exact ent_no hx fun hh => by omega)), H5.noRows⟩
 refine Xu rfl rfl<|Xm rfl<|cOp e115<|OY rfl<|Xf fl41_1 rfl<|OY rfl<|OV (EL ty37 rfl (H5.cell (i := 1) rfl rfl))<|cOp e115<|OY rfl<|OV (ES Tryz.underlying37 rfl)<|OY rfl<|OT (ex_gtr rfl rfl) (fun hp94 => ?_) (fun hp94 => ?_)
 refine Xu rfl rfl<|Xr e115<|J3 rfl<|Rq<|Xa rfl<|Xa rfl<|Xr e115<|J5<|BR<|rnd_ret<|BR<|FN2 rfl rfl rfl<|⟨_, _, rfl, Ans.no (chk_f3 (by rw [hinv]; exact ent_no hx fun hh => by omega)), H5.noRows⟩
 refine Xu rfl rfl<|Xr e115<|J4 rfl<|J6<|run_nil (blk_normal ?_)
 refine J2<|OV (ex_add rfl rfl (IntWalk.i64_in _ (by omega)))<|Xm rfl<|Xr e115<|run_nil (rnd_normal ?_)
 have hgo := ent_go (m := s.index + i) hx ⟨by omega, by omega, by omega⟩
 exact ⟨s.entries.length - (i + 1), by omega, i + 1, _, rfl, (fn (fs (fn (fn (fn (fs (fn (fn (fn (fn (fn (fn (fn (fn (fn (fn (fn (fn (fn (fn (fn (fn (fn (fn (fn (fn (fn (fn (fn (fn (fn (fn (fn (fn (fn (fn (fn (fn (fn (fn (fn (fn (fn (fn (fn (fn (fn (fn (fn (fn (fn (fn (fn (fn (fn (fn (fn (fn (fn (fn (fn (fn (fn (fn (fn (fn (fn (fn (fn (fn (fs (fs (fs (fn (fn (fn (fn (fn (fn (fn (fn (fn (fn (fn (fn (fn (fn (fn (fn (fn (fn (fn (fn (fn (fn (fn (fn (fn (fn (fn (fn (fn (fn (fn (fn (fn (fn (fn (fn (fn (fn (fn (fn (fn (fn f0))))))))))))))))))))))))))))))))))))))))))))))))))))))))))))))))))))))))))))))))))))))))))))))))))))))))))))))))))), by omega, by omega, by rw [hinv, hgo]; congr 1; omega, H5.pick [0] (by decide)⟩
 obtain rfl : i = s.entries.length := by omega
 have hent := hinv.trans ent_end
 refine Xr e115<|J1<|J4 rfl<|J8<|rnd_exit<|blk_exit<|Rq<|Xf fl57_0 rfl<|OV (EN ty36 rfl (vs := [.int .i64 s.p.r, .int .i64 s.p.n]) rfl (H3.cellsR (i := 0) rfl rfl))<|Xf fl57_2 rfl<|OV (EL ty3 rfl (H3.cell (i := 0) rfl rfl))<|cOp e115<|Xf fl57_4 rfl<|OV (EL ty55 rfl (H3.cell (i := 0) rfl rfl))<|OV (ES Tryz.underlying55 rfl)<|OV (ex_add rfl rfl (IntWalk.i64_in _ (by omega)))<|cOp e115<|OV (ex_add rfl rfl (IntWalk.i64_in _ (by omega)))<|Xf fl57_1 rfl<|OV (EL ty54 rfl (H3.cell (i := 0) rfl rfl))<|OQ (EC gf93 rfl) (load_a s.p (s.index + s.entries.length + 1) A1 k1 s.votes ok _ (hv1.toV H3 k0) (by omega)) ?_
 rintro _ w4 ⟨v, e, rfl, hans, Hd⟩
 have H4 := H3.callN Hd
 rw [← chk_ld (by omega) (by omega) hent] at hans
 refine cOp e115<|Xm rfl<|Xe rfl rfl<|Xe rfl rfl<|Xa rfl<|cOp e115<|Xa rfl<|Xr e115<|J1<|Rq<|Xm rfl<|OT (ex_neq rfl rfl) (fun hp113 => ?_) (fun hp113 => ?_)
 refine Xr e115<|J3 rfl<|Rq<|Xa rfl<|Xa rfl<|Xr e115<|J5<|FN2 rfl rfl rfl<|⟨_, _, rfl, Ans.no (by cases hc : chk s with | false => rfl | true => exact absurd (hans.1 hc) hp113), H4.noRows⟩
 refine Xr e115<|J4 rfl<|J6<|Rq<|Xm rfl<|Xa rfl<|Xa rfl<|Xr e115<|J5<|FN2 rfl rfl rfl<|⟨_, _, rfl, Ans.ok (by cases hc : chk s with | true => rfl | false => have := hans.2 hc; omega), H4.noRows⟩
 have H2 := H1.callN Hd
 refine OY rfl<|Xn rfl<|Xt rfl rfl<|Xm rfl<|cOp e115<|OZ rfl<|OZ rfl<|cOp e115<|OZ rfl<|Xt rfl rfl<|Xm rfl<|cOp e115<|OZ rfl<|OZ rfl<|cOp e115<|OZ rfl<|Xt rfl rfl<|Xm rfl<|cOp e115<|OZ rfl<|OZ rfl<|cOp e115<|OZ rfl<|OZ rfl<|cOp e115<|OZ rfl<|OZ rfl<|cOp e115<|OZ rfl<|OZ rfl<|cOp e115<|OZ rfl<|Xt rfl rfl<|Xm rfl<|cOp e115<|OZ rfl<|OZ rfl<|cOp e115<|OZ rfl<|OZ rfl ?_
 refine Xt rfl rfl<|Xr e115<|J3 rfl<|Rq<|Xa rfl<|Xa rfl<|Xr e115<|J5<|FN2 rfl rfl rfl<|⟨_, _, rfl, Ans.no (chk_f1 (by omega)), H2.noRows⟩
 refine Xm rfl<|cOp e115<|OZ rfl<|OZ rfl<|cOp e115<|OZ rfl<|OZ rfl<|cOp e115<|OZ rfl<|Xu rfl rfl<|Xm rfl<|cOp e115<|OY rfl<|Xf fl57_2 rfl<|OY rfl<|OV (EL ty3 rfl (H1.cell (i := 0) rfl rfl))<|cOp e115<|OY rfl<|OT (ex_lss rfl rfl) (fun hp45 => ?_) (fun hp45 => ?_)
 refine Xu rfl rfl<|Xm rfl<|cOp e115<|OZ rfl<|OZ rfl<|cOp e115<|OZ rfl<|Xt rfl rfl<|Xm rfl<|cOp e115<|OZ rfl<|OZ rfl<|cOp e115<|OZ rfl<|OZ rfl<|cOp e115<|OZ rfl<|OZ rfl<|cOp e115<|OZ rfl<|OZ rfl<|cOp e115<|OZ rfl<|Xt rfl rfl<|Xm rfl<|cOp e115<|OZ rfl<|OZ rfl<|cOp e115<|OZ rfl<|OZ rfl<|Xt rfl rfl<|Xr e115<|J3 rfl<|Rq<|Xa rfl<|Xa rfl<|OE ?_
 refine cR e115<|J5<|FN2 rfl rfl rfl<|⟨_, _, rfl, Ans.no (chk_f2 (by omega)), H1.noRows⟩
 refine Xu rfl rfl<|Xm rfl<|cOp e115<|OY rfl<|Xf fl57_2 rfl<|OY rfl<|OV (EL ty3 rfl (H1.cell (i := 0) rfl rfl))<|cOp e115<|OY rfl<|OT (ex_gtr rfl rfl) (fun hp50 => ?_) (fun hp50 => ?_)
 refine Xu rfl rfl<|Xm rfl<|cOp e115<|OZ rfl<|OZ rfl<|cOp e115<|OZ rfl<|OZ rfl<|cOp e115<|OZ rfl<|OZ rfl<|cOp e115<|OZ rfl<|OZ rfl<|cOp e115<|OZ rfl<|Xt rfl rfl<|Xm rfl<|cOp e115<|OZ rfl<|OZ rfl<|cOp e115<|OZ rfl<|OZ rfl<|Xt rfl rfl<|Xr e115<|J3 rfl<|Rq<|Xa rfl<|Xa rfl<|Xr e115<|J5<|FN2 rfl rfl rfl<|⟨_, _, rfl, Ans.no (chk_f2 (by omega)), H1.noRows⟩
 refine Xu rfl rfl<|Xm rfl<|cOp e115<|OY rfl<|Xf fl57_2 rfl<|OY rfl<|OV (EL ty3 rfl (H1.cell (i := 0) rfl rfl))<|cOp e115<|OY rfl<|OT (ex_eql rfl rfl) (fun hp55 => ?_) (fun hp55 => ?_)
 refine OY rfl<|Xm rfl<|OY rfl<|Xf fl57_3 rfl<|cOp e115<|OY rfl<|OV (EL ty37 rfl (H1.cell (i := 0) rfl rfl))<|OY rfl<|OV (ES Tryz.underlying37 rfl)<|cOp e115<|OY rfl<|OT (ex_gtr rfl rfl) (fun hp60 => ?_) (fun hp60 => ?_)
 refine OY rfl<|Xt rfl rfl<|Xu rfl rfl<|Xm rfl<|cOp e115<|OZ rfl<|OZ rfl<|cOp e115<|OZ rfl<|OZ rfl<|Xt rfl rfl<|Xr e115<|J3 rfl<|Rq<|Xa rfl<|Xa rfl<|Xr e115<|J5<|FN2 rfl rfl rfl<|⟨_, _, rfl, Ans.no (chk_f2 (by omega)), H1.noRows⟩
 refine OY rfl<|Xt rfl rfl<|Xu rfl rfl<|Xm rfl<|cOp e115<|OY rfl<|Xf fl57_3 rfl<|OY rfl<|OV (EL ty37 rfl (H1.cell (i := 0) rfl rfl))<|cOp e115<|OY rfl<|OV (ES Tryz.underlying37 rfl)<|OY rfl<|OT (ex_gtr rfl rfl) (fun hp67 => ?_) (fun hp67 => ?_)
 refine Xu rfl rfl<|Xr e115<|J3 rfl<|Rq<|Xa rfl<|Xa rfl<|Xr e115<|J5<|FN2 rfl rfl rfl<|⟨_, _, rfl, Ans.no (chk_f2 (by omega)), H1.noRows⟩
 refine Xu rfl rfl<|Xr e115<|J4 rfl<|J6<|J1<|Rq<|Xf fl57_4 rfl<|OV (EL ty55 rfl (H1.cell (i := 0) rfl rfl))<|OV (ES Tryz.underlying55 rfl)<|Xm rfl<|Xr e115<|J7<|run_loop (fun nQ lQ w => ∃ (i : Nat) (y : Int), s.entries.length - i = nQ ∧ Fits [none, some (.int .i64 5), none, none, none, some (.pointer (some ⟨gs, 0, none⟩)), none, none, none, none, none, none, none, none, none, none, none, none, none, none, none, none, none, none, none, none, none, none, none, none, none, none, none, none, none, none, none, none, none, none, none, none, none, none, none, none, none, none, none, none, none, none, none, none, none, none, none, none, none, none, none, none, none, none, none, none, none, none, none, none, some (.slice A3 s.entries.length k3), some (.int .i64 (s.entries.length : Int)), some (.int .i64 y), none, none, none, none, none, none, none, none, none, none, none, none, none, none, none, none, none, none, none, none, none, none, none, none, none, none, none, none, none, none, none, none, none, none, none, none, none, none, none, none, none, none] lQ ∧ y = (i : Int) ∧ i ≤ s.entries.length ∧ entOk s.index s.entries = entOk (s.index + i) (s.entries.drop i) ∧ Hp w0 w [] [((some gs, 57, [.int .i64 s.p.r, .int .i64 s.p.n, .slice A1 s.votes.length k1, .int .i64 s.index, .slice A2 s.image.length k2, .slice A3 s.entries.length k3]) : Ent)]) (s.entries.length) ?_ ?_
 exact ⟨0, _, rfl, (fn (fs (fn (fn (fn (fs (fn (fn (fn (fn (fn (fn (fn (fn (fn (fn (fn (fn (fn (fn (fn (fn (fn (fn (fn (fn (fn (fn (fn (fn (fn (fn (fn (fn (fn (fn (fn (fn (fn (fn (fn (fn (fn (fn (fn (fn (fn (fn (fn (fn (fn (fn (fn (fn (fn (fn (fn (fn (fn (fn (fn (fn (fn (fn (fn (fn (fn (fn (fn (fn (fs (fs (fs (fn (fn (fn (fn (fn (fn (fn (fn (fn (fn (fn (fn (fn (fn (fn (fn (fn (fn (fn (fn (fn (fn (fn (fn (fn (fn (fn (fn (fn (fn (fn (fn (fn (fn (fn (fn (fn (fn (fn (fn (fn (fn f0))))))))))))))))))))))))))))))))))))))))))))))))))))))))))))))))))))))))))))))))))))))))))))))))))))))))))))))))))), rfl, Nat.zero_le _, by simp, H1⟩
 rintro nQ lQ w2 ⟨i, y, rfl, hfit, rfl, hi, hinv, H2⟩
 obtain ⟨j, rfl⟩ := hfit.open
 refine cR e115 ?_
 clear hfit
 refine Rq<|OT (ex_lss rfl rfl) (fun hp73 => ?_) (fun hp73 => ?_)
 have hil : i < s.entries.length := by omega
 obtain ⟨x, hx⟩ := get_of hil
 obtain ⟨p1, hp1, hR⟩ := he2.get hx
 obtain ⟨Ax, kx, rfl, hbx⟩ := hR
 obtain ⟨a1, ha1⟩ := hre.some_ (by omega)
 subst ha1
 refine Xr e115<|J1<|J3 rfl<|J6<|J1<|J7<|Rq<|Xm rfl<|OV (EI Tryz.underlying55 ty41 rfl rfl rfl hil rfl)<|OV (EN ty41 rfl (vs := [.int .i64 x.slot, .slice Ax x.val.length kx]) rfl ((hre.to0 H2).elem hpe hp1))<|OA ty41 H2<|fun w3 g3 H3 hg3=>cOp e115<|Xa rfl<|OS ty41 H3 1 rfl rfl rfl rfl rfl (by first | decide | (simp; done) | simp [putAt]) rfl<|fun w4 H4=>Xr e115<|Rq<|Xf fl41_0 rfl<|OV (EL ty3 rfl (H4.cell (i := 1) rfl rfl))<|Xf fl57_2 rfl<|OV (EL ty3 rfl (H4.cell (i := 0) rfl rfl))<|cOp e115<|OV (ex_add rfl rfl (IntWalk.i64_in _ (by omega)))<|Xm rfl<|OV (ex_add rfl rfl (IntWalk.i64_in _ (by omega)))<|OT (ex_neq rfl rfl) (fun hp84 => ?_) (fun hp84 => ?_)
 refine Xm rfl<|cOp e115<|OZ rfl<|OZ rfl<|cOp e115<|OZ rfl<|Xt rfl rfl<|Xm rfl<|cOp e115<|OZ rfl<|OZ rfl<|cOp e115<|OZ rfl<|OZ rfl<|Xt rfl rfl<|Xr e115<|J3 rfl<|Rq<|Xa rfl<|Xa rfl<|Xr e115<|J5<|BR<|rnd_ret<|BR<|FN2 rfl rfl rfl<|⟨_, _, rfl, Ans.no (chk_f3 (by rw [hinv]; exact ent_no hx fun hh => by omega)), H4.noRows⟩
 refine Xm rfl<|cOp e115<|OY rfl<|Xf fl41_0 rfl<|OY rfl<|OV (EL ty3 rfl (H4.cell (i := 1) rfl rfl))<|cOp e115<|OY rfl<|OT (ex_gtr rfl rfl) (fun hp88 => ?_) (fun hp88 => ?_)
 refine Xu rfl rfl<|Xm rfl<|cOp e115<|OZ rfl<|OZ rfl<|cOp e115<|OZ rfl<|OZ rfl<|Xt rfl rfl<|Xr e115<|J3 rfl<|Rq<|Xa rfl<|Xa rfl<|Xr e115<|J5<|BR<|rnd_ret<|BR<|FN2 rfl rfl rfl<|⟨_, _, rfl, Ans.no (chk_f3 (by rw [hinv]; exact ent_no hx fun hh => by omega)), H4.noRows⟩
 refine Xu rfl rfl<|Xm rfl<|cOp e115<|OY rfl<|Xf fl41_1 rfl<|OY rfl<|OV (EL ty37 rfl (H4.cell (i := 1) rfl rfl))<|cOp e115<|OY rfl<|OV (ES Tryz.underlying37 rfl)<|OY rfl<|OT (ex_gtr rfl rfl) (fun hp94 => ?_) (fun hp94 => ?_)
 refine Xu rfl rfl<|Xr e115<|J3 rfl<|Rq<|Xa rfl<|Xa rfl<|Xr e115<|J5<|BR<|rnd_ret<|BR<|FN2 rfl rfl rfl<|⟨_, _, rfl, Ans.no (chk_f3 (by rw [hinv]; exact ent_no hx fun hh => by omega)), H4.noRows⟩
 refine Xu rfl rfl<|Xr e115<|J4 rfl<|J6<|run_nil (blk_normal ?_)
 refine J2<|OV (ex_add rfl rfl (IntWalk.i64_in _ (by omega)))<|Xm rfl<|Xr e115<|run_nil (rnd_normal ?_)
 have hgo := ent_go (m := s.index + i) hx ⟨by omega, by omega, by omega⟩
 exact ⟨s.entries.length - (i + 1), by omega, i + 1, _, rfl, (fn (fs (fn (fn (fn (fs (fn (fn (fn (fn (fn (fn (fn (fn (fn (fn (fn (fn (fn (fn (fn (fn (fn (fn (fn (fn (fn (fn (fn (fn (fn (fn (fn (fn (fn (fn (fn (fn (fn (fn (fn (fn (fn (fn (fn (fn (fn (fn (fn (fn (fn (fn (fn (fn (fn (fn (fn (fn (fn (fn (fn (fn (fn (fn (fn (fn (fn (fn (fn (fn (fs (fs (fs (fn (fn (fn (fn (fn (fn (fn (fn (fn (fn (fn (fn (fn (fn (fn (fn (fn (fn (fn (fn (fn (fn (fn (fn (fn (fn (fn (fn (fn (fn (fn (fn (fn (fn (fn (fn (fn (fn (fn (fn (fn (fn f0))))))))))))))))))))))))))))))))))))))))))))))))))))))))))))))))))))))))))))))))))))))))))))))))))))))))))))))))))), by omega, by omega, by rw [hinv, hgo]; congr 1; omega, H4.pick [0] (by decide)⟩
 obtain rfl : i = s.entries.length := by omega
 have hent := hinv.trans ent_end
 refine Xr e115<|J1<|J4 rfl<|J8<|rnd_exit<|blk_exit<|Rq<|Xf fl57_0 rfl<|OV (EN ty36 rfl (vs := [.int .i64 s.p.r, .int .i64 s.p.n]) rfl (H2.cellsR (i := 0) rfl rfl))<|Xf fl57_2 rfl<|OV (EL ty3 rfl (H2.cell (i := 0) rfl rfl))<|cOp e115<|Xf fl57_4 rfl<|OV (EL ty55 rfl (H2.cell (i := 0) rfl rfl))<|OV (ES Tryz.underlying55 rfl)<|OV (ex_add rfl rfl (IntWalk.i64_in _ (by omega)))<|cOp e115<|OV (ex_add rfl rfl (IntWalk.i64_in _ (by omega)))<|Xf fl57_1 rfl<|OV (EL ty54 rfl (H2.cell (i := 0) rfl rfl))<|OQ (EC gf93 rfl) (load_a s.p (s.index + s.entries.length + 1) A1 k1 s.votes ok _ (hv1.toV H2 k0) (by omega)) ?_
 rintro _ w3 ⟨v, e, rfl, hans, Hd⟩
 have H3 := H2.callN Hd
 rw [← chk_ld (by omega) (by omega) hent] at hans
 refine cOp e115<|Xm rfl<|Xe rfl rfl<|Xe rfl rfl<|Xa rfl<|cOp e115<|Xa rfl<|Xr e115<|J1<|Rq<|Xm rfl<|OT (ex_neq rfl rfl) (fun hp113 => ?_) (fun hp113 => ?_)
 refine Xr e115<|J3 rfl<|Rq<|Xa rfl<|Xa rfl<|Xr e115<|J5<|FN2 rfl rfl rfl<|⟨_, _, rfl, Ans.no (by cases hc : chk s with | false => rfl | true => exact absurd (hans.1 hc) hp113), H3.noRows⟩
 refine Xr e115<|J4 rfl<|J6<|Rq<|Xm rfl<|Xa rfl<|Xa rfl<|Xr e115<|J5<|FN2 rfl rfl rfl<|⟨_, _, rfl, Ans.ok (by cases hc : chk s with | true => rfl | false => have := hans.2 hc; omega), H3.noRows⟩
 refine OY rfl<|Xm rfl<|OZ rfl<|cOp e115<|OZ rfl<|OZ rfl<|cOp e115<|OZ rfl<|OY rfl<|Xu rfl rfl<|Xu rfl rfl<|Xm rfl<|cOp e115<|OY rfl<|Xf fl57_3 rfl<|OY rfl<|OV (EL ty37 rfl (H1.cell (i := 0) rfl rfl))<|cOp e115<|OY rfl<|OV (ES Tryz.underlying37 rfl)<|OY rfl<|OT (ex_gtr rfl rfl) (fun hp67 => ?_) (fun hp67 => ?_)
 refine Xu rfl rfl<|Xr e115<|J3 rfl<|Rq<|Xa rfl<|Xa rfl<|Xr e115<|J5<|FN2 rfl rfl rfl<|⟨_, _, rfl, Ans.no (chk_f2 (by omega)), H1.noRows⟩
 refine Xu rfl rfl<|Xr e115<|J4 rfl<|J6<|J1<|Rq<|Xf fl57_4 rfl<|OV (EL ty55 rfl (H1.cell (i := 0) rfl rfl))<|OV (ES Tryz.underlying55 rfl)<|Xm rfl<|Xr e115<|J7<|run_loop (fun nQ lQ w => ∃ (i : Nat) (y : Int), s.entries.length - i = nQ ∧ Fits [none, some (.int .i64 5), none, none, none, some (.pointer (some ⟨gs, 0, none⟩)), none, none, none, none, none, none, none, none, none, none, none, none, none, none, none, none, none, none, none, none, none, none, none, none, none, none, none, none, none, none, none, none, none, none, none, none, none, none, none, none, none, none, none, none, none, none, none, none, none, none, none, none, none, none, none, none, none, none, none, none, none, none, none, none, some (.slice A3 s.entries.length k3), some (.int .i64 (s.entries.length : Int)), some (.int .i64 y), none, none, none, none, none, none, none, none, none, none, none, none, none, none, none, none, none, none, none, none, none, none, none, none, none, none, none, none, none, none, none, none, none, none, none, none, none, none, none, none, none, none] lQ ∧ y = (i : Int) ∧ i ≤ s.entries.length ∧ entOk s.index s.entries = entOk (s.index + i) (s.entries.drop i) ∧ Hp w0 w [] [((some gs, 57, [.int .i64 s.p.r, .int .i64 s.p.n, .slice A1 s.votes.length k1, .int .i64 s.index, .slice A2 s.image.length k2, .slice A3 s.entries.length k3]) : Ent)]) (s.entries.length) ?_ ?_
 exact ⟨0, _, rfl, (fn (fs (fn (fn (fn (fs (fn (fn (fn (fn (fn (fn (fn (fn (fn (fn (fn (fn (fn (fn (fn (fn (fn (fn (fn (fn (fn (fn (fn (fn (fn (fn (fn (fn (fn (fn (fn (fn (fn (fn (fn (fn (fn (fn (fn (fn (fn (fn (fn (fn (fn (fn (fn (fn (fn (fn (fn (fn (fn (fn (fn (fn (fn (fn (fn (fn (fn (fn (fn (fn (fs (fs (fs (fn (fn (fn (fn (fn (fn (fn (fn (fn (fn (fn (fn (fn (fn (fn (fn (fn (fn (fn (fn (fn (fn (fn (fn (fn (fn (fn (fn (fn (fn (fn (fn (fn (fn (fn (fn (fn (fn (fn (fn (fn (fn f0))))))))))))))))))))))))))))))))))))))))))))))))))))))))))))))))))))))))))))))))))))))))))))))))))))))))))))))))))), rfl, Nat.zero_le _, by simp, H1⟩
 rintro nQ lQ w2 ⟨i, y, rfl, hfit, rfl, hi, hinv, H2⟩
 obtain ⟨j, rfl⟩ := hfit.open
 refine cR e115 ?_
 clear hfit
 refine Rq<|OT (ex_lss rfl rfl) (fun hp73 => ?_) (fun hp73 => ?_)
 have hil : i < s.entries.length := by omega
 obtain ⟨x, hx⟩ := get_of hil
 obtain ⟨p1, hp1, hR⟩ := he2.get hx
 obtain ⟨Ax, kx, rfl, hbx⟩ := hR
 obtain ⟨a1, ha1⟩ := hre.some_ (by omega)
 subst ha1
 refine Xr e115<|J1<|J3 rfl<|J6<|J1<|J7<|Rq<|Xm rfl<|OV (EI Tryz.underlying55 ty41 rfl rfl rfl hil rfl)<|OV (EN ty41 rfl (vs := [.int .i64 x.slot, .slice Ax x.val.length kx]) rfl ((hre.to0 H2).elem hpe hp1))<|OA ty41 H2<|fun w3 g3 H3 hg3=>cOp e115<|Xa rfl<|OS ty41 H3 1 rfl rfl rfl rfl rfl (by first | decide | (simp; done) | simp [putAt]) rfl<|fun w4 H4=>Xr e115<|Rq<|Xf fl41_0 rfl<|OV (EL ty3 rfl (H4.cell (i := 1) rfl rfl))<|Xf fl57_2 rfl<|OV (EL ty3 rfl (H4.cell (i := 0) rfl rfl))<|cOp e115<|OV (ex_add rfl rfl (IntWalk.i64_in _ (by omega)))<|Xm rfl<|OV (ex_add rfl rfl (IntWalk.i64_in _ (by omega)))<|OT (ex_neq rfl rfl) (fun hp84 => ?_) (fun hp84 => ?_)
 refine Xm rfl<|cOp e115<|OZ rfl<|OZ rfl<|cOp e115<|OZ rfl<|Xt rfl rfl<|Xm rfl<|cOp e115<|OZ rfl<|OZ rfl<|cOp e115<|OZ rfl<|OZ rfl<|Xt rfl rfl<|Xr e115<|J3 rfl<|Rq<|Xa rfl<|Xa rfl<|Xr e115<|J5<|BR<|rnd_ret<|BR<|FN2 rfl rfl rfl<|⟨_, _, rfl, Ans.no (chk_f3 (by rw [hinv]; exact ent_no hx fun hh => by omega)), H4.noRows⟩
 refine Xm rfl<|cOp e115<|OY rfl<|Xf fl41_0 rfl<|OY rfl<|OV (EL ty3 rfl (H4.cell (i := 1) rfl rfl))<|cOp e115<|OY rfl<|OT (ex_gtr rfl rfl) (fun hp88 => ?_) (fun hp88 => ?_)
 refine Xu rfl rfl<|Xm rfl<|cOp e115<|OZ rfl<|OZ rfl<|cOp e115<|OZ rfl<|OZ rfl<|Xt rfl rfl<|Xr e115<|J3 rfl<|Rq<|Xa rfl<|Xa rfl<|Xr e115<|J5<|BR<|rnd_ret<|BR<|FN2 rfl rfl rfl<|⟨_, _, rfl, Ans.no (chk_f3 (by rw [hinv]; exact ent_no hx fun hh => by omega)), H4.noRows⟩
 refine Xu rfl rfl<|Xm rfl<|cOp e115<|OY rfl<|Xf fl41_1 rfl<|OY rfl<|OV (EL ty37 rfl (H4.cell (i := 1) rfl rfl))<|cOp e115<|OY rfl<|OV (ES Tryz.underlying37 rfl)<|OY rfl<|OT (ex_gtr rfl rfl) (fun hp94 => ?_) (fun hp94 => ?_)
 refine Xu rfl rfl<|Xr e115<|J3 rfl<|Rq<|Xa rfl<|Xa rfl<|Xr e115<|J5<|BR<|rnd_ret<|BR<|FN2 rfl rfl rfl<|⟨_, _, rfl, Ans.no (chk_f3 (by rw [hinv]; exact ent_no hx fun hh => by omega)), H4.noRows⟩
 refine Xu rfl rfl<|Xr e115<|J4 rfl<|J6<|run_nil (blk_normal ?_)
 refine J2<|OV (ex_add rfl rfl (IntWalk.i64_in _ (by omega)))<|Xm rfl<|Xr e115<|run_nil (rnd_normal ?_)
 have hgo := ent_go (m := s.index + i) hx ⟨by omega, by omega, by omega⟩
 exact ⟨s.entries.length - (i + 1), by omega, i + 1, _, rfl, (fn (fs (fn (fn (fn (fs (fn (fn (fn (fn (fn (fn (fn (fn (fn (fn (fn (fn (fn (fn (fn (fn (fn (fn (fn (fn (fn (fn (fn (fn (fn (fn (fn (fn (fn (fn (fn (fn (fn (fn (fn (fn (fn (fn (fn (fn (fn (fn (fn (fn (fn (fn (fn (fn (fn (fn (fn (fn (fn (fn (fn (fn (fn (fn (fn (fn (fn (fn (fn (fn (fs (fs (fs (fn (fn (fn (fn (fn (fn (fn (fn (fn (fn (fn (fn (fn (fn (fn (fn (fn (fn (fn (fn (fn (fn (fn (fn (fn (fn (fn (fn (fn (fn (fn (fn (fn (fn (fn (fn (fn (fn (fn (fn (fn (fn f0))))))))))))))))))))))))))))))))))))))))))))))))))))))))))))))))))))))))))))))))))))))))))))))))))))))))))))))))))), by omega, by omega, by rw [hinv, hgo]; congr 1; omega, H4.pick [0] (by decide)⟩
 obtain rfl : i = s.entries.length := by omega
 have hent := hinv.trans ent_end
 refine Xr e115<|J1<|J4 rfl<|J8<|rnd_exit<|blk_exit<|Rq<|Xf fl57_0 rfl<|OV (EN ty36 rfl (vs := [.int .i64 s.p.r, .int .i64 s.p.n]) rfl (H2.cellsR (i := 0) rfl rfl))<|Xf fl57_2 rfl<|OV (EL ty3 rfl (H2.cell (i := 0) rfl rfl))<|cOp e115<|Xf fl57_4 rfl<|OV (EL ty55 rfl (H2.cell (i := 0) rfl rfl))<|OV (ES Tryz.underlying55 rfl)<|OV (ex_add rfl rfl (IntWalk.i64_in _ (by omega)))<|cOp e115<|OV (ex_add rfl rfl (IntWalk.i64_in _ (by omega)))<|Xf fl57_1 rfl<|OV (EL ty54 rfl (H2.cell (i := 0) rfl rfl))<|OQ (EC gf93 rfl) (load_a s.p (s.index + s.entries.length + 1) A1 k1 s.votes ok _ (hv1.toV H2 k0) (by omega)) ?_
 rintro _ w3 ⟨v, e, rfl, hans, Hd⟩
 have H3 := H2.callN Hd
 rw [← chk_ld (by omega) (by omega) hent] at hans
 refine cOp e115<|Xm rfl<|Xe rfl rfl<|Xe rfl rfl<|Xa rfl<|cOp e115<|Xa rfl<|Xr e115<|J1<|Rq<|Xm rfl<|OT (ex_neq rfl rfl) (fun hp113 => ?_) (fun hp113 => ?_)
 refine Xr e115<|J3 rfl<|Rq<|Xa rfl<|Xa rfl<|Xr e115<|J5<|FN2 rfl rfl rfl<|⟨_, _, rfl, Ans.no (by cases hc : chk s with | false => rfl | true => exact absurd (hans.1 hc) hp113), H3.noRows⟩
 refine Xr e115<|J4 rfl<|J6<|Rq<|Xm rfl<|Xa rfl<|Xa rfl<|Xr e115<|J5<|FN2 rfl rfl rfl<|⟨_, _, rfl, Ans.ok (by cases hc : chk s with | true => rfl | false => have := hans.2 hc; omega), H3.noRows⟩
set_option maxRecDepth 100000 in
set_option maxHeartbeats 4000000 in
theorem check_p (s : Sv) (A1 : Option Addr) (k1 : Nat) (A2 : Option Addr) (k2 : Nat) (A3 : Option Addr) (k3 : Nat) (ok : Nat → Prop) (w0 : World) (hv1 : Sl (VtR w0 ok) 4 w0 ok A1 s.votes) (hv2 : Bs w0 ok A2 s.image) (hv3 : Sl (EnR w0 ok) 2 w0 ok A3 s.entries) (hvl : s.votes.length ≤ 1000000000000000000) (hel2 : s.entries.length ≤ 1000000000000000000) : Does Tryz.prog 36 #[.int .i64 1, .int .i64 5, .agg [.int .i64 s.p.r, .int .i64 s.p.n, .slice A1 s.votes.length k1, .int .i64 s.index, .slice A2 s.image.length k2, .slice A3 s.entries.length k3].toArray] w0 (fun r w' => ∃ e : Int, r = .int .i64 e ∧ Ans (chk s) e ∧ Hp w0 w' [] []) := by
 refine does_of Tryz.func36 Tryz.ntmps36 rfl<|cR e17 ?_
 have H := Hp.refl w0
 refine Rq<|ops_box rfl rfl H<|fun w1 g1 H1 hg1=>Xa rfl<|Xr e17<|Rq<|Xm rfl<|Xm rfl<|OV (EN ty57 rfl (vs := [.int .i64 s.p.r, .int .i64 s.p.n, .slice A1 s.votes.length k1, .int .i64 s.index, .slice A2 s.image.length k2, .slice A3 s.entries.length k3]) rfl (H1.cellsR (i := 0) rfl rfl))<|OQ (EC gf65 rfl) (load_p s A1 k1 A2 k2 A3 k3 ok _ (hv1.toV H1 k0) (hv2.to H1 k0) (hv3.toE H1 k0) hvl hel2) ?_
 rintro _ w2 ⟨v, e, rfl, hans, Hd⟩
 have H2 := H1.callN Hd
 refine cOp e17<|Xm rfl<|Xe rfl rfl<|Xe rfl rfl<|Xa rfl<|cOp e17<|Xa rfl<|Xr e17<|Rq<|Xm rfl<|Xa rfl<|Xr e17<|J5<|FN1 rfl rfl<|⟨_, rfl, hans, H2.noRows⟩
end Go.Proofs.YtbninklfoogmdaaGreat
/- Walks of layer 2, printed by wip/gen/codec.py. -/
namespace Go.Proofs.YtbninklfoogmdaaGreat
open Go Go.RowKit
set_option linter.unusedVariables false
attribute [local irreducible] Still Ops Does Cd
set_option maxRecDepth 100000 in
set_option maxHeartbeats 4000000 in
theorem check_l (A : Option Addr) (k : Nat) (l : List Rt) (ok : Nat → Prop) (w0 : World) (hl : Sl RtR 4 w0 ok A l) (hn : l.length ≤ 1000000000000) (hso : rtsOk l) : Does Tryz.prog 74 #[.slice A l.length k] w0 (fun r w' => r = .int .i64 0 ∧ Hp w0 w' [] []) := by
 refine does_of Tryz.func74 Tryz.ntmps74 rfl<|cR e30 ?_
 have H := Hp.refl w0
 obtain ⟨ps, hp, hr, ha, h2⟩ := id hl
 have hlen := h2.len
 obtain ⟨hmays, hrise⟩ := rts_rise hso
 refine Rq<|Xa rfl<|Xr e30<|J1<|Rq<|Xm rfl<|OV (ES Tryz.underlying24 rfl)<|Xm rfl<|Xr e30<|J7<|run_loop (fun nQ lQ w => ∃ (i : Nat) (y : Int), l.length - i = nQ ∧ Fits [some (.slice A l.length k), none, none, none, none, some (.slice A l.length k), some (.int .i64 (l.length : Int)), some (.int .i64 y), none, none, none, none, none, none, none, none, none, none, none, none, none, none, none, none, none, none, none, none, none, none] lQ ∧ y = (i : Int) ∧ i ≤ l.length ∧ Hp w0 w [] []) (l.length) ?_ ?_
 exact ⟨0, _, rfl, (fs (fn (fn (fn (fn (fs (fs (fs (fn (fn (fn (fn (fn (fn (fn (fn (fn (fn (fn (fn (fn (fn (fn (fn (fn (fn (fn (fn (fn (fn f0)))))))))))))))))))))))))))))), rfl, Nat.zero_le _, H⟩
 rintro nQ lQ w1 ⟨i, y, rfl, hfit, rfl, hi, H1⟩
 obtain ⟨j, rfl⟩ := hfit.open
 refine cR e30 ?_
 clear hfit
 refine Rq<|OT (ex_lss rfl rfl) (fun hp8 => ?_) (fun hp8 => ?_)
 have hil : i < l.length := by omega
 obtain ⟨x, hx⟩ := get_of hil
 obtain ⟨p1, hp1, hR⟩ := h2.get hx
 unfold RtR at hR
 subst hR
 obtain ⟨a1, ha1⟩ := hr.some_ (by omega)
 subst ha1
 have hmay := hmays x (mem_of hx)
 refine Xr e30<|J1<|J3 rfl<|J6<|J1<|J7<|Rq<|Xm rfl<|OV (EI Tryz.underlying24 ty43 rfl rfl rfl hil rfl)<|OV (EN ty43 rfl (vs := [.int .i64 x.g, strV x.key, .int .i64 x.lease, .int .i64 x.net]) rfl ((hr.to0 H1).elem hp hp1))<|OA ty43 H1<|fun w2 g2 H2 hg2=>cOp e30<|Xa rfl<|OS ty43 H2 0 rfl rfl rfl rfl rfl (by first | decide | (simp; done) | simp [putAt]) rfl<|fun w3 H3=>Xr e30<|J1<|run_mixZ 16 [(true, 0), (false, 1), (true, 2), (true, 3), (true, 4), (true, 5), (true, 6), (true, 7), (true, 8), (true, 9), (true, 10), (true, 11), (true, 12), (false, 13), (true, 14), (true, 15), (false, 16)] H3 [0] mixed (by decide) (by kernel_rfl) ?_
 rintro w4 hw4
 have H4 := Hp.drew H3; rw [← hw4] at H4
 refine MP rfl<|MV (fun wz hz => EN ty43 rfl (vs := [.int .i64 x.g, strV x.key, .int .i64 x.lease, .int .i64 x.net]) rfl (hz.cellsR (i := 0) rfl rfl))<|MO rfl<|ops_call_true (EC gf75 rfl) (may_l _ _) (hmay)<|fun w5 Hd=>have H5:=H4.callN Hd;OE<|⟨fun hne => H5.pick [0] (by decide), ?_⟩
 refine cZ e30<|MP rfl<|MV (fun wz hz => ex_not rfl)<|Zm rfl rfl<|MP rfl<|MY rfl<|MV (fun wz hz => ex_move rfl)<|MP rfl<|MY rfl<|mix1_test (fun wz hz => ex_gtr rfl rfl) (fun hp17 => ?_) (fun hp17 => ?_)
 obtain ⟨y, hy⟩ := get_of (l := l) (j := i - 1) (by omega)
 obtain ⟨p2, hp2, hR2⟩ := h2.get hy
 unfold RtR at hR2
 subst hR2
 have hneg : ordR y x < 0 := ordR_lt.2 (hrise (i - 1) i y x (by omega) hy hx)
 refine MP rfl<|MY rfl<|MV (fun wz hz => ex_move rfl)<|cZ e30<|MP rfl<|MY rfl<|MV (fun wz hz => ex_move rfl)<|MP rfl<|MY rfl<|MV (fun wz hz => ex_move rfl)<|MP rfl<|MY rfl<|MV (fun wz hz => ex_sub rfl rfl (IntWalk.i64_in _ (by omega)))<|MP rfl<|MY rfl<|MV (fun wz hz => EI Tryz.underlying24 ty43 rfl rfl (len := l.length) (i := i - 1) (by omega) (by omega) rfl)<|cZ e30<|MP rfl<|MY rfl<|MV (fun wz hz => EN ty43 rfl (vs := [.int .i64 y.g, strV y.key, .int .i64 y.lease, .int .i64 y.net]) rfl ((hr.to0 hz).elem hp hp2))<|MP rfl<|MY rfl<|MV (fun wz hz => EN ty43 rfl (vs := [.int .i64 x.g, strV x.key, .int .i64 x.lease, .int .i64 x.net]) rfl (hz.cellsR (i := 0) rfl rfl))<|MO rfl<|OY rfl<|OC (EC gf77 rfl) (orderC y x _)<|fun w6 Hd=>have H6:=H5.callN Hd;OE<|⟨fun hne => H6.pick [0] (by decide), ?_⟩
 refine cZ e30<|MP rfl<|MY rfl<|mix1_false (fun wz hz => ex_geq rfl rfl) (by omega)<|MP rfl<|MY rfl<|MV (fun wz hz => ex_pick_t rfl rfl)<|MO rfl<|Xu rfl rfl<|OE<|⟨fun hne => absurd rfl hne, ?_⟩
 refine cZ e30<|ME<|cR e30<|J4 rfl<|J6<|run_nil (blk_normal ?_)
 refine J2<|OV (ex_add rfl rfl (IntWalk.i64_in _ (by omega)))<|Xm rfl<|Xr e30<|run_nil (rnd_normal ?_)
 exact ⟨l.length - (i + 1), by omega, i + 1, _, rfl, (fs (fn (fn (fn (fn (fs (fs (fs (fn (fn (fn (fn (fn (fn (fn (fn (fn (fn (fn (fn (fn (fn (fn (fn (fn (fn (fn (fn (fn (fn f0)))))))))))))))))))))))))))))), by omega, by omega, H6.noRows⟩
 refine MP rfl<|MY rfl<|MV (fun wz hz => ex_move rfl)<|cZ e30<|MP rfl<|MZ rfl<|MP rfl<|MZ rfl<|cZ e30<|MP rfl<|MZ rfl<|MP rfl<|MZ rfl<|cZ e30<|MP rfl<|MZ rfl<|MP rfl<|MZ rfl<|cZ e30<|MO rfl<|OZ rfl<|OE<|⟨fun hne => H5.pick [0] (by decide), ?_⟩
 refine MP rfl<|MZ rfl<|cZ e30<|MP rfl<|MY rfl<|MV (fun wz hz => ex_pick_f rfl rfl)<|MO rfl<|Xu rfl rfl<|OE<|⟨fun hne => absurd rfl hne, ?_⟩
 refine cZ e30<|ME<|cR e30<|J4 rfl<|J6<|run_nil (blk_normal ?_)
 refine J2<|OV (ex_add rfl rfl (IntWalk.i64_in _ (by omega)))<|Xm rfl<|Xr e30<|run_nil (rnd_normal ?_)
 exact ⟨l.length - (i + 1), by omega, i + 1, _, rfl, (fs (fn (fn (fn (fn (fs (fs (fs (fn (fn (fn (fn (fn (fn (fn (fn (fn (fn (fn (fn (fn (fn (fn (fn (fn (fn (fn (fn (fn (fn f0)))))))))))))))))))))))))))))), by omega, by omega, H5.noRows⟩
 refine Xr e30<|J1<|J4 rfl<|J8<|rnd_exit<|blk_exit<|Rq<|Xa rfl<|Xr e30<|J5<|FN1 rfl rfl<|⟨rfl, H1.noRows⟩
set_option maxRecDepth 100000 in
set_option maxHeartbeats 16000000 in
theorem put_l (x : Rt) (A : Option Addr) (k : Nat) (l : List Rt) (ok : Nat → Prop) (w0 : World) (hl : Sl RtR 4 w0 ok A l) (hn : l.length ≤ 1000000000000) (hso : rtsOk l) : Does Tryz.prog 56 #[.slice A l.length k, .agg [.int .i64 x.g, strV x.key, .int .i64 x.lease, .int .i64 x.net].toArray] w0 (fun r w' => (mayR x → ∃ A' k', r = .tuple #[.slice A' (putRt l x).length k', .int .i64 0] ∧ Sl RtR 4 w' (fun b => w0.heap.size ≤ b) A' (putRt l x)) ∧ (¬ mayR x → r = .tuple #[.slice none 0 0, .int .i64 1]) ∧ Hp w0 w' [] []) := by
 refine does_of Tryz.func56 Tryz.ntmps56 rfl<|cR e34 ?_
 have H := Hp.refl w0
 obtain ⟨ps, hp, hr, ha, h2⟩ := id hl
 have hlen := h2.len
 obtain ⟨hmays, hrise⟩ := rts_rise hso
 have hon := h2.ones fun _ _ h => h.ones
 refine Rq<|ops_box rfl rfl H<|fun w1 gx H1 _=>Xa rfl<|Xa rfl<|Xr e34<|J1<|Rq<|Xm rfl<|OC (EC gf74 rfl) (check_l A k l ok _ (hl.toR H1 k0) hn hso)<|fun w2 Hd=>have H2:=H1.callN Hd;OT0 (ex_neq rfl rfl) (by decide)<|Xr e34<|J4 rfl<|J6<|J1<|Rq<|OV (EN ty43 rfl (vs := [.int .i64 x.g, strV x.key, .int .i64 x.lease, .int .i64 x.net]) rfl (H2.cellsR (i := 0) rfl rfl))<|OX (EC gf75 rfl) (may_l _ _) (fun hp13 w3 Hd => ?_) (fun hp13 w3 Hd => ?_)
 have H3 := H2.callN Hd
 refine Xn rfl<|Xr e34<|J4 rfl<|J6<|Rq<|Xm rfl<|OQ (EC gf54 rfl) (cloneR A l.length k ps.flatten _ (hr.to0 H3) (ones_flatten hon) (by omega)) ?_
 rintro _ w4 ⟨gv, cv, sv, rfl, hmv, hcv, hgv0, Hc⟩
 have hgf := row_new (ok := fun _ => False) Hc (i := 0) rfl (fun _ h => by cases h)
 have hsz1 := H3.size
 have H4 := H3.call0 Hc
 refine Xa rfl<|Xr e34<|Rq<|Xm rfl<|OV (EN ty43 rfl (vs := [.int .i64 x.g, strV x.key, .int .i64 x.lease, .int .i64 x.net]) rfl (H4.cellsR (i := 0) rfl rfl)) ?_
 have hrs := H4.rd (i := 1) (xs := ps.flatten) (sp := sv) rfl hp.len (by decide)
 refine OQ (EC gf76 rfl) (bsearchR (hd gv) cv ps l.length hlen 77 (rtC x) rfl (rtCf x) _ hp hrs (by omega) (cmp_right h2 (rise_rt hrise x))) ?_
 rintro _ w5 ⟨i, f, rfl, hfd, Hd⟩
 have H5 := H4.callN Hd
 refine Xm rfl<|cOp e34<|Xe rfl rfl<|Xe rfl rfl<|Xa rfl<|Xa rfl<|Xr e34<|J1<|Rq<|Xm rfl<|Xr e34<|run_cond rfl (fun hb23 => ?_) (fun hb23 => ?_)
 obtain ⟨pi, hpi, _⟩ := hfd.yes hb23
 have hil := lt_of_get hpi
 obtain ⟨gw, rfl⟩ := own_some H5 (i := 1) rfl (by rw [List.length_append, hp.len]; omega)
 subst hb23
 refine Rq<|Xm rfl<|Xm rfl<|OV (EN ty43 rfl (vs := [.int .i64 x.g, strV x.key, .int .i64 x.lease, .int .i64 x.net]) rfl (H5.cellsR (i := 0) rfl rfl))<|OV (ex_idxN Tryz.underlying24 ty43 rfl rfl rfl (by omega))<|cOp e34<|OS ty43 H5 1 rfl rfl rfl rfl rfl (by rw [List.length_append, hp.len]; show 0 + i * 4 + 4 ≤ _; omega) rfl<|fun w6 H6=>?_
 rw [store_elem (sz := 4) (vs := rtC x) hp hil rfl] at H6
 replace H6 := H6.pick [0, 1] (by decide)
 refine Xr e34<|Rq<|Xm rfl<|Xa rfl<|Xa rfl<|Xr e34<|J5<|FN2 rfl rfl rfl ?_
 have hput := hfd.put (v := x) h2 (fun p x h => rtCf_eq h) (rise_rt hrise x)
 rw [← putRt_eq] at hput
 have HZ := H6
 rw [if_pos rfl] at hput
 refine ⟨fun _ => ⟨hd (some gw), cv, by rw [hput, List.length_set], ?_⟩, fun h => absurd hp13 h, H6.noRows⟩
 rw [hput]
 exact Sl.row HZ (i := 1) rfl (hp.set_len rfl) (by decide) (h2.set i rfl) (fun b hb => by
   rcases HZ.place (i := 1) (g := b) (by cases hb; rfl) with h | h
   · cases h
   · exact h)
 subst hb23
 refine J6<|Rq<|Xm rfl<|Xm rfl<|OV (EN ty43 rfl (vs := [.int .i64 x.g, strV x.key, .int .i64 x.lease, .int .i64 x.net]) rfl (H5.cellsR (i := 0) rfl rfl))<|ops_buildSlice Tryz.underlying24 ty43 H5 rfl (by decide) rfl<|fun w6 g6 H6 hg6=>cOp e34<|OQ (EC gf78 rfl) (insertR gv cv i _ l.length ps hlen (rtC x) sv _ (H6.pick [1] (by decide)).here hp hon (by omega) hcv hgv0 hfd.le (H6.at (i := 2) rfl) rfl rfl (row_not H6 (i := 2) (is := [1]) rfl (by decide)) (by omega)) ?_
 rintro _ w7 ⟨gw, cw, sw, rfl, hnw, hcw, hgw, Hd⟩
 rw [hlen]
 have H7 := (H6.callr [1] rfl Hd).pick [0, 3] (by decide)
 refine Xa rfl<|Xa rfl<|Xr e34<|J5<|FN2 rfl rfl rfl ?_
 have hput := hfd.put (v := x) h2 (fun p x h => rtCf_eq h) (rise_rt hrise x)
 rw [← putRt_eq] at hput
 have HZ := H7
 rw [if_neg (by decide)] at hput
 have hle := hfd.le
 have hil3 : (l.take i ++ x :: l.drop i).length = l.length + 1 := by rw [List.length_append, List.length_cons, List.length_take, List.length_drop]; omega
 refine ⟨fun _ => ⟨hd gw, cw, by rw [hput, hil3], ?_⟩, fun h => absurd hp13 h, H7.noRows⟩
 rw [hput]
 exact Sl.row HZ (i := 1) rfl ((hp.sub fun x hx => List.mem_of_mem_take hx).app fun x hx => by
   rcases List.mem_cons.1 hx with rfl | hx
   · rfl
   · exact hp x (List.mem_of_mem_drop hx)) (by decide) ((h2.take i).app ⟨rfl, h2.drop i⟩) (fun b hb => by
   rcases HZ.place (i := 1) (g := b) (by cases hb; rfl) with h | h
   · cases h
   · exact h)
 have H3 := H2.callN Hd
 refine Xn rfl<|Xr e34<|J3 rfl<|Rq<|Xa rfl<|Xa rfl<|Xr e34<|J5<|FN2 rfl rfl rfl<|⟨fun h => absurd h hp13, fun _ => rfl, H3.noRows⟩
set_option maxRecDepth 100000 in
set_option maxHeartbeats 4000000 in
theorem check_s (A : Option Addr) (k : Nat) (l : List Mk) (ok : Nat → Prop) (w0 : World) (hl : Sl MkR 7 w0 ok A l) (hn : l.length ≤ 1000000000000) (hso : mksOk 0 l) : Does Tryz.prog 79 #[.slice A l.length k] w0 (fun r w' => r = .int .i64 0 ∧ Hp w0 w' [] []) := by
 refine does_of Tryz.func79 Tryz.ntmps79 rfl<|cR e49 ?_
 have H := Hp.refl w0
 obtain ⟨ps, hp, hr, ha, h2⟩ := id hl
 have hlen := h2.len
 obtain ⟨hfit2, hrise⟩ := mks_rise hso
 refine Rq<|Xa rfl<|Xr e49<|Rq<|Xa rfl<|Xr e49<|J1<|Rq<|Xm rfl<|OV (ES Tryz.underlying25 rfl)<|Xm rfl<|Xr e49<|J7<|run_loop (fun nQ lQ w => ∃ (i : Nat) (y m : Int), l.length - i = nQ ∧ Fits [none, none, none, some (.int .i64 m), none, none, some (.slice A l.length k), some (.int .i64 (l.length : Int)), some (.int .i64 y), none, none, none, none, none, none, none, none, none, none, none, none, none, none, none, none, none, none, none, none, none, none, none, none, none, none, none, none, none, none, none, none, none, none, none, none, none, none, none, none] lQ ∧ y = (i : Int) ∧ i ≤ l.length ∧ mksOk m (l.drop i) ∧ Hp w0 w [] []) (l.length) ?_ ?_
 exact ⟨0, _, 0, rfl, (fn (fn (fn (fs (fn (fn (fs (fs (fs (fn (fn (fn (fn (fn (fn (fn (fn (fn (fn (fn (fn (fn (fn (fn (fn (fn (fn (fn (fn (fn (fn (fn (fn (fn (fn (fn (fn (fn (fn (fn (fn (fn (fn (fn (fn (fn (fn (fn (fn f0))))))))))))))))))))))))))))))))))))))))))))))))), rfl, Nat.zero_le _, hso, H⟩
 rintro nQ lQ w1 ⟨i, y, m, rfl, hfit, rfl, hi, hinv, H1⟩
 obtain ⟨j, rfl⟩ := hfit.open
 refine cR e49 ?_
 clear hfit
 refine Rq<|OT (ex_lss rfl rfl) (fun hp9 => ?_) (fun hp9 => ?_)
 have hil : i < l.length := by omega
 obtain ⟨x, hx⟩ := get_of hil
 obtain ⟨p1, hp1, hR⟩ := h2.get hx
 unfold MkR at hR
 subst hR
 obtain ⟨a1, ha1⟩ := hr.some_ (by omega)
 subst ha1
 rw [drop_cons hx] at hinv
 obtain ⟨hm1, hm2, hm3, hm4, hm5⟩ := hinv
 refine Xr e49<|J1<|J3 rfl<|J6<|J1<|J7<|Rq<|OV (EI Tryz.underlying25 ty63 rfl rfl rfl hil rfl)<|OV (EN ty63 rfl (vs := [.int .i64 x.client, .int .i64 x.seq, .bool false, .int .i64 0, .int .i64 0, .int .i64 0, .int .i64 0]) rfl ((hr.to0 H1).elem hp hp1))<|OA ty63 H1<|fun w2 g2 H2 hg2=>OS ty63 H2 0 rfl rfl rfl rfl rfl (by first | decide | (simp; done) | simp [putAt]) rfl<|fun w3 H3=>Xr e49<|J1<|Rq<|Xf fl63_0 rfl<|OV (EL ty3 rfl (H3.cell (i := 0) rfl rfl))<|Xm rfl<|OT0 (ex_leq rfl rfl) (by omega)<|cOp e49<|Xm rfl<|OY rfl<|Xf fl63_0 rfl<|cOp e49<|OY rfl<|OV (EL ty3 rfl (H3.cell (i := 0) rfl rfl))<|OY rfl<|OT0 (ex_gtr rfl rfl) (by omega)<|Xu rfl rfl<|Xm rfl<|cOp e49<|OY rfl<|Xf fl63_1 rfl<|OY rfl<|OV (EL ty3 rfl (H3.cell (i := 0) rfl rfl)) ?_
 refine cOp e49<|OY rfl<|OT0 (ex_lss rfl rfl) (by omega)<|Xu rfl rfl<|Xm rfl<|cOp e49<|OY rfl<|Xf fl63_1 rfl<|OY rfl<|OV (EL ty3 rfl (H3.cell (i := 0) rfl rfl))<|cOp e49<|OY rfl<|OT0 (ex_gtr rfl rfl) (by omega)<|Xu rfl rfl<|Xm rfl<|cOp e49<|OY rfl<|Xf fl63_2 rfl<|OY rfl<|OV (EL ty4 rfl (H3.cell (i := 0) rfl rfl))<|cOp e49<|OY rfl<|Xm rfl<|OZ rfl<|cOp e49<|OZ rfl<|OZ rfl<|cOp e49<|OZ rfl<|OZ rfl<|cOp e49<|OZ rfl<|OZ rfl<|cOp e49<|OZ rfl<|OZ rfl<|cOp e49<|OY rfl<|Xu rfl rfl<|Xu rfl rfl ?_
 refine Xr e49<|J4 rfl<|J6<|J2<|Xf fl63_0 rfl<|OV (EL ty3 rfl (H3.cell (i := 0) rfl rfl))<|Xa rfl<|Xr e49<|run_nil (blk_normal ?_)
 refine J2<|OV (ex_add rfl rfl (IntWalk.i64_in _ (by omega)))<|Xm rfl<|Xr e49<|run_nil (rnd_normal ?_)
 exact ⟨l.length - (i + 1), by omega, i + 1, _, x.client, rfl, (fn (fn (fn (fs (fn (fn (fs (fs (fs (fn (fn (fn (fn (fn (fn (fn (fn (fn (fn (fn (fn (fn (fn (fn (fn (fn (fn (fn (fn (fn (fn (fn (fn (fn (fn (fn (fn (fn (fn (fn (fn (fn (fn (fn (fn (fn (fn (fn (fn f0))))))))))))))))))))))))))))))))))))))))))))))))), by omega, by omega, hm5, H3.noRows⟩
 refine Xr e49<|J1<|J4 rfl<|J8<|rnd_exit<|blk_exit<|Rq<|Xa rfl<|Xr e49<|J5<|FN1 rfl rfl<|⟨rfl, H1.noRows⟩
end Go.Proofs.YtbninklfoogmdaaGreat
/- Walks of layer 2, printed by wip/gen/codec.py. -/
namespace Go.Proofs.YtbninklfoogmdaaGreat
open Go Go.RowKit
set_option linter.unusedVariables false
attribute [local irreducible] Still Ops Does Cd
set_option maxRecDepth 100000 in
set_option maxHeartbeats 4000000 in
theorem place_s (A : Option Addr) (k : Nat) (l : List Mk) (c : Int) (ps : List (List Value)) (w0 : World) (hp : Pl 7 ps) (hr : Rd w0 A l.length 7 ps.flatten) (h2 : All2 MkR ps l) (hn : l.length ≤ 1000000) (hso : mksOk 0 l) : Does Tryz.prog 80 #[.slice A l.length k, .int .i64 c] w0 (fun r w' => ∃ (i : Nat) (f : Bool), r = .tuple #[.int .i64 (i : Int), .bool f] ∧ Found ps (mkCf c) i f ∧ Hp w0 w' [] []) := by
 refine does_of Tryz.func80 Tryz.ntmps80 rfl<|cR e11 ?_
 have H := Hp.refl w0
 have hlen := h2.len
 refine Rq<|Xa rfl<|Xa rfl<|Xr e11<|Rq<|Xm rfl<|Xm rfl<|OQ (EC gf98 rfl) (bsearchM A k ps l.length hlen 99 c (mkCf c) _ hp (by rw [hlen]; exact hr.to0 H) (by omega) (cmp_mark h2 (rise_mk (mks_rise hso).2 c))) ?_
 rintro _ w1 ⟨i, f, rfl, hfd, Hd⟩
 have H1 := H.callN Hd
 refine Xe rfl rfl<|cOp e11<|Xe rfl rfl<|Xa rfl<|Xa rfl<|Xr e11<|J5<|FN2 rfl rfl rfl<|⟨i, f, rfl, hfd, H1.noRows⟩
set_option maxRecDepth 100000 in
set_option maxHeartbeats 4000000 in
theorem find_s (A : Option Addr) (k : Nat) (l : List Mk) (c : Int) (ok : Nat → Prop) (w0 : World) (hl : Sl MkR 7 w0 ok A l) (hn : l.length ≤ 1000000) (hso : mksOk 0 l) : Does Tryz.prog 57 #[.slice A l.length k, .int .i64 c] w0 (fun r w' => ∃ (m : Mk) (f : Bool), r = .tuple #[.agg (mkC m).toArray, .bool f] ∧ (f = true → findMk l c = some m) ∧ (f = false → findMk l c = none) ∧ Hp w0 w' [] []) := by
 refine does_of Tryz.func57 Tryz.ntmps57 rfl<|cR e25 ?_
 have H := Hp.refl w0
 obtain ⟨ps, hp, hr, ha, h2⟩ := id hl
 have hlen := h2.len
 refine Rq<|OA ty63 H<|fun w1 g1 H1 hg1=>Xa rfl<|Xr e25<|J1<|Rq<|Xm rfl<|OC (EC gf79 rfl) (check_s A k l ok _ (hl.toM H1 k0) (by omega) hso)<|fun w2 Hd=>have H2:=H1.callN Hd;OT0 (ex_neq rfl rfl) (by decide)<|Xr e25<|J4 rfl<|J6<|Rq<|Xm rfl<|Xm rfl<|OQ (EC gf80 rfl) (place_s A k l c ps _ hp (hr.to0 H2) h2 hn hso) ?_
 rintro _ w3 ⟨i, f, rfl, hfd, Hd⟩
 have H3 := H2.callN Hd
 obtain ⟨hyes, hno⟩ := find_found hfd h2 (mks_rise hso).2
 cases f
 refine Xm rfl<|Xe rfl rfl<|cOp e25<|Xe rfl rfl<|Xa rfl<|Xa rfl<|Xr e25<|J1<|Rq<|Xm rfl<|Xn rfl<|Xr e25<|J3 rfl<|Rq<|OV (EB ty63 pl63 rfl rfl)<|OS ty63 H3 0 rfl rfl rfl rfl rfl (by first | decide | (simp; done) | simp [putAt]) rfl<|fun w4 H4=>Xa rfl<|Xr e25<|J5<|fin_cell_tmp rfl ty63 (cs := mkC ⟨0, 0⟩) rfl rfl rfl (H4.cellsR (i := 0) rfl rfl)<|⟨⟨0, 0⟩, false, rfl, (fun h => by cases h), fun _ => hno rfl, H4.noRows⟩
 obtain ⟨x, hx, hfx⟩ := hyes rfl
 obtain ⟨p1, hp1, hR⟩ := h2.get hx
 unfold MkR at hR
 subst hR
 obtain ⟨a1, ha1⟩ := hr.some_ (by have := lt_of_get hx; omega)
 subst ha1
 refine Xm rfl<|Xe rfl rfl<|cOp e25<|Xe rfl rfl<|Xa rfl<|Xa rfl<|Xr e25<|J1<|Rq<|Xm rfl<|Xn rfl<|Xr e25<|J4 rfl<|J6<|Rq<|Xm rfl<|Xm rfl<|OV (EI Tryz.underlying25 ty63 rfl rfl rfl (lt_of_get hx) rfl)<|OV (EN ty63 rfl (vs := mkC x) rfl ((hr.to0 H3).elem hp hp1))<|cOp e25<|OS ty63 H3 0 rfl rfl rfl rfl rfl (by first | decide | (simp; done) | simp [putAt]) rfl<|fun w4 H4=>Xa rfl<|Xr e25<|J5<|fin_cell_tmp rfl ty63 (cs := mkC x) rfl rfl rfl (H4.cellsR (i := 0) rfl rfl)<|⟨x, true, rfl, fun _ => hfx, (fun h => by cases h), H4.noRows⟩
set_option maxRecDepth 100000 in
set_option maxHeartbeats 4000000 in
theorem table_v (n : Int) (w0 : World) : Does Tryz.prog 35 #[.int .i64 n] w0 (fun r w' => ((n < 1 ∨ 4 < n) → r = .nilFunc) ∧ (n = 1 → r = .func (.func 61) #[] #[]) ∧ (n = 2 → r = .func (.func 62) #[] #[]) ∧ (n = 3 → r = .func (.func 63) #[] #[]) ∧ (n = 4 → r = .func (.func 64) #[] #[]) ∧ Hp w0 w' [] []) := by
 refine does_of Tryz.func35 Tryz.ntmps35 rfl<|cR e12 ?_
 have H := Hp.refl w0
 refine Rq<|Xa rfl<|Xr e12<|J1<|Rq<|Xm rfl<|OT (ex_lss rfl rfl) (fun hp4 => ?_) (fun hp4 => ?_)
 refine Xm rfl<|cOp e12<|OZ rfl<|OZ rfl<|Xt rfl rfl<|Xr e12<|J3 rfl<|Rq<|Xa rfl<|Xr e12<|J5<|FN1 rfl rfl ?_
 refine ⟨fun _ => rfl, fun h => by omega, fun h => by omega, fun h => by omega, fun h => by omega, H.noRows⟩
 refine Xm rfl<|cOp e12<|OY rfl<|Xm rfl<|OY rfl<|OT (ex_gtr rfl rfl) (fun hp7 => ?_) (fun hp7 => ?_)
 refine Xu rfl rfl<|Xr e12<|J3 rfl<|Rq<|Xa rfl<|Xr e12<|J5<|FN1 rfl rfl ?_
 refine ⟨fun _ => rfl, fun h => by omega, fun h => by omega, fun h => by omega, fun h => by omega, H.noRows⟩
 refine Xu rfl rfl<|Xr e12<|J4 rfl<|J6<|Rq<|OV (ex_buildA ty103 Tryz.underlying103 ty77 rfl rfl)<|Xm rfl ?_
 obtain hk | hk | hk | hk : n = 1 ∨ n = 2 ∨ n = 3 ∨ n = 4 := by omega
 subst hk
 refine OV (ex_indexA1 Tryz.underlying103 ty77 rfl rfl (i := 1) rfl (by decide) rfl)<|Xa rfl<|Xr e12<|J5<|FN1 rfl rfl ?_
 refine ⟨fun h => by omega, fun _ => rfl, fun h => by omega, fun h => by omega, fun h => by omega, H.noRows⟩
 subst hk
 refine OV (ex_indexA1 Tryz.underlying103 ty77 rfl rfl (i := 2) rfl (by decide) rfl)<|Xa rfl<|Xr e12<|J5<|FN1 rfl rfl ?_
 refine ⟨fun h => by omega, fun h => by omega, fun _ => rfl, fun h => by omega, fun h => by omega, H.noRows⟩
 subst hk
 refine OV (ex_indexA1 Tryz.underlying103 ty77 rfl rfl (i := 3) rfl (by decide) rfl)<|Xa rfl<|Xr e12<|J5<|FN1 rfl rfl ?_
 refine ⟨fun h => by omega, fun h => by omega, fun h => by omega, fun _ => rfl, fun h => by omega, H.noRows⟩
 subst hk
 refine OV (ex_indexA1 Tryz.underlying103 ty77 rfl rfl (i := 4) rfl (by decide) rfl)<|Xa rfl<|Xr e12<|J5<|FN1 rfl rfl ?_
 refine ⟨fun h => by omega, fun h => by omega, fun h => by omega, fun h => by omega, fun _ => rfl, H.noRows⟩
end Go.Proofs.YtbninklfoogmdaaGreat
/- Walks of layer 2, printed by wip/gen/codec.py. -/
namespace Go.Proofs.YtbninklfoogmdaaGreat
open Go Go.RowKit
set_option linter.unusedVariables false
attribute [local irreducible] Still Ops Does Cd
set_option maxRecDepth 100000 in
set_option maxHeartbeats 32000000 in
theorem spent_v (gb : Nat) (b : Bo) (A1 : Option Addr) (k1 : Nat) (A2 : Option Addr) (k2 : Nat) (A3 : Option Addr) (k3 : Nat) (n : Nt) (B1 : Option Addr) (j1 : Nat) (B2 : Option Addr) (j2 : Nat) (N : Nat) (w0 : World) (hrow : w0.heap[gb]? = some (.cells [.slice A1 b.groups.length k1, .slice A2 b.rights.length k2, .slice A3 b.last.length k3].toArray 27 (0, 0))) (ok : Nat → Prop) (hok : ¬ ok gb) (hb1 : Sl (SvR w0 ok) 6 w0 ok A1 b.groups) (hb2 : Sl RtR 4 w0 ok A2 b.rights) (hb3 : Sl MkR 7 w0 ok A3 b.last) (hg : Good b N) (hN : N ≤ 900000000000) : Does Tryz.prog 34 #[.pointer (some ⟨gb, 0, none⟩), .agg [.int .i64 n.kind, .int .i64 n.group, .int .i64 n.b.r, .int .i64 n.b.n, .int .i64 n.vote.slot, .int .i64 n.vote.b.r, .int .i64 n.vote.b.n, .slice B1 n.vote.val.length j1, .int .i64 n.entry.slot, .slice B2 n.entry.val.length j2, .int .i64 n.right.g, strV n.right.key, .int .i64 n.right.lease, .int .i64 n.right.net, .int .i64 n.client, .int .i64 n.seq].toArray] w0 (fun r w' => (mayR n.right → r = .bool true ∧ ∃ cs', Hp w0 w' [gb] [((some gb, 27, cs') : Ent)] ∧ BoR w' (up ok w0.heap.size) cs' { b with rights := putRt b.rights n.right, last := spend b.last n.client n.seq }) ∧ (¬ mayR n.right → r = .bool false ∧ Hp w0 w' [gb] [])) := by
 refine does_of Tryz.func34 Tryz.ntmps34 rfl<|cR e98 ?_
 have H := Hp.old hrow
 have hks := up_k (n := w0.heap.size) (ok := ok) (S := [gb]) fun x hx hg => hok (by rw [← List.mem_singleton.1 hg]; exact hx)
 have hml := mks_len hg.mks
 have hrl := hg.few
 obtain ⟨pm, hpm, hrm, ham, hm2⟩ := id hb3
 have hplen := hm2.len
 have hon := hm2.ones fun _ _ h => h.ones
 refine Rq<|ops_box rfl rfl H<|fun w1 g1 H1 hg1=>Xa rfl<|Xr e98<|J1<|run_mixZ 11 [(true, 0), (true, 1), (true, 2), (true, 3), (true, 4), (true, 5), (false, 6), (true, 7), (true, 8), (true, 9), (true, 10), (false, 11)] H1 [0, 1] mixed (by decide) (by kernel_rfl) ?_
 rintro w2 hw2
 have H2 := Hp.drew H1; rw [← hw2] at H2
 refine Zm rfl rfl<|Zc rfl rfl<|Zf rfl fl27_1 rfl<|MP rfl<|MV (fun wz hz => EL ty24 rfl (hz.cell (i := 0) rfl rfl))<|cZ e98<|Zf rfl fl45_5 rfl<|MP rfl<|MV (fun wz hz => EN ty43 rfl (vs := [.int .i64 n.right.g, strV n.right.key, .int .i64 n.right.lease, .int .i64 n.right.net]) rfl (hz.cellsR (i := 1) rfl rfl))<|MO rfl ?_
 have hnb := Hp.fresh H2
 have hszj := H2.size
 refine OQ (EC gf56 rfl) (put_l n.right A2 k2 b.rights (up ok w0.heap.size) _ (hb2.toR H2 hks) (by omega) hg.rts) ?_
 rintro r w3 ⟨hyes, hno, Hd⟩
 have H3 := H2.callN Hd
 by_cases hmay : mayR n.right
 obtain ⟨A9, k9, rfl, hS9⟩ := hyes hmay
 refine OE ?_
 refine ⟨fun hne => H3.pick [0, 1] (by decide), ?_⟩
 refine Zm rfl rfl<|MP rfl<|MV (fun wz hz => ex_extract rfl rfl)<|cZ e98<|MP rfl<|MV (fun wz hz => ex_extract rfl rfl)<|MP rfl<|MV (fun wz hz => ex_assign rfl)<|MO rfl<|Xa rfl<|OE<|⟨fun hne => absurd rfl hne, ?_⟩
 refine cZ e98<|ME<|cR e98<|J1<|Rq<|Xm rfl<|OT0 (ex_neq rfl rfl) (by decide)<|Xr e98<|J4 rfl<|J6<|Rq<|Xm rfl<|Xm rfl<|Xc rfl<|Xf fl27_1 rfl<|cOp e98 ?_
 have HB := H3
 replace H3 := HB.here
 refine OW ty24 H3 0 rfl rfl rfl rfl (by first | (simp; done) | simp [putAt]) rfl<|fun w4 H4=>Xr e98<|J1<|Rq<|Xf fl45_6 rfl<|OV (EL ty3 rfl (H4.cell (i := 1) rfl rfl))<|OT (ex_lss rfl rfl) (fun hp29 => ?_) (fun hp29 => ?_)
 refine Xm rfl<|cOp e98<|OZ rfl<|OZ rfl<|cOp e98<|OZ rfl<|Xt rfl rfl<|Xm rfl<|cOp e98<|OZ rfl<|OZ rfl<|cOp e98<|OZ rfl<|Xt rfl rfl<|Xm rfl<|cOp e98<|OZ rfl<|OZ rfl<|cOp e98<|OZ rfl<|Xt rfl rfl<|Xr e98<|J3 rfl<|Rq<|Xa rfl<|Xr e98<|J5<|FN1 rfl rfl ?_
 have HW := HB.all H4
 refine ⟨fun _ => ⟨rfl, _, HW.pick [0] (by decide), A1, k1, A9, k9, A3, k3, by rw [spend_no (by omega)]; rfl, hb1.toS HW hks, hS9.toR H4 (fun x hx _ => ⟨hnb x hx, .inr (by omega)⟩), ?_⟩, fun h => absurd hmay h⟩
 rw [spend_no (by omega)]
 exact hb3.toM HW hks
 refine Xm rfl<|cOp e98<|OY rfl<|Xf fl45_6 rfl<|OY rfl<|OV (EL ty3 rfl (H4.cell (i := 1) rfl rfl))<|cOp e98<|OY rfl<|OT (ex_gtr rfl rfl) (fun hp33 => ?_) (fun hp33 => ?_)
 refine Xu rfl rfl<|Xm rfl<|cOp e98<|OZ rfl<|OZ rfl<|cOp e98<|OZ rfl<|Xt rfl rfl<|Xm rfl<|cOp e98<|OZ rfl<|OZ rfl<|cOp e98<|OZ rfl<|Xt rfl rfl<|Xr e98<|J3 rfl<|Rq<|Xa rfl<|Xr e98<|J5<|FN1 rfl rfl ?_
 have HW := HB.all H4
 refine ⟨fun _ => ⟨rfl, _, HW.pick [0] (by decide), A1, k1, A9, k9, A3, k3, by rw [spend_no (by omega)]; rfl, hb1.toS HW hks, hS9.toR H4 (fun x hx _ => ⟨hnb x hx, .inr (by omega)⟩), ?_⟩, fun h => absurd hmay h⟩
 rw [spend_no (by omega)]
 exact hb3.toM HW hks
 refine Xu rfl rfl<|Xm rfl<|cOp e98<|OY rfl<|Xf fl45_7 rfl<|OY rfl<|OV (EL ty3 rfl (H4.cell (i := 1) rfl rfl))<|cOp e98<|OY rfl<|OT (ex_lss rfl rfl) (fun hp38 => ?_) (fun hp38 => ?_)
 refine Xu rfl rfl<|Xm rfl<|cOp e98<|OZ rfl<|OZ rfl<|cOp e98<|OZ rfl<|Xt rfl rfl<|Xr e98<|J3 rfl<|Rq<|Xa rfl<|Xr e98<|J5<|FN1 rfl rfl ?_
 have HW := HB.all H4
 refine ⟨fun _ => ⟨rfl, _, HW.pick [0] (by decide), A1, k1, A9, k9, A3, k3, by rw [spend_no (by omega)]; rfl, hb1.toS HW hks, hS9.toR H4 (fun x hx _ => ⟨hnb x hx, .inr (by omega)⟩), ?_⟩, fun h => absurd hmay h⟩
 rw [spend_no (by omega)]
 exact hb3.toM HW hks
 refine Xu rfl rfl<|Xm rfl<|cOp e98<|OY rfl<|Xf fl45_7 rfl<|OY rfl<|OV (EL ty3 rfl (H4.cell (i := 1) rfl rfl))<|cOp e98<|OY rfl<|OT (ex_gtr rfl rfl) (fun hp43 => ?_) (fun hp43 => ?_)
 refine Xu rfl rfl<|Xr e98<|J3 rfl<|Rq<|Xa rfl<|Xr e98<|J5<|FN1 rfl rfl ?_
 have HW := HB.all H4
 refine ⟨fun _ => ⟨rfl, _, HW.pick [0] (by decide), A1, k1, A9, k9, A3, k3, by rw [spend_no (by omega)]; rfl, hb1.toS HW hks, hS9.toR H4 (fun x hx _ => ⟨hnb x hx, .inr (by omega)⟩), ?_⟩, fun h => absurd hmay h⟩
 rw [spend_no (by omega)]
 exact hb3.toM HW hks
 refine Xu rfl rfl<|Xr e98<|J4 rfl<|J6<|J1<|J1<|run_mixT 12 (.p 0 (.p 1 (.p 2 (.p 3 (.p 4 (.p 5 (.two 6 (.p 7 (.p 8 (.p 9 (.o 10 (.o 11 (.o 12 .nil)))))) 10 (.o 6 (.p 7 (.p 8 (.p 9 (.o 11 (.o 12 .nil))))))))))))) H4 [0, 1] mixed (by decide) (by kernel_rfl) ?_
 rintro w5 hw5
 have H5 := Hp.drew H4; rw [← hw5] at H5
 refine Tm rfl rfl<|TP rfl<|MV (fun wz hz => ex_nilCheck rfl)<|Tf rfl fl27_2 rfl<|TP rfl<|MV (fun wz hz => EL ty25 rfl (hz.cell (i := 0) rfl rfl))<|cT e98<|Tf rfl fl45_6 rfl<|TP rfl<|MV (fun wz hz => EL ty3 rfl (hz.cell (i := 1) rfl rfl))<|mixt_two ?_ ?_
 refine TQ rfl<|OQ (EC gf57 rfl) (find_s A3 k3 b.last n.client (up ok w0.heap.size) _ (hb3.toM (HB.all H5) hks) (by omega) hg.mks) ?_
 rintro _ w6 ⟨mq, fq, rfl, hyq, hnq, Hd⟩
 have H6 := H5.callN Hd
 cases fq
 refine OE ?_
 refine ⟨fun hne => H6.pick [0, 1] (by decide), ?_⟩
 refine Tm rfl rfl<|TP rfl<|MV (fun wz hz => ex_extract rfl rfl)<|cT e98<|TP rfl<|MV (fun wz hz => ex_extract rfl rfl)<|TQ rfl<|OA ty63 H6<|fun w7 g7 H7 hg7=>OE<|⟨fun hne => H7.pick [0, 1] (by decide), ?_⟩
 refine cT e98<|TQ rfl<|OS ty63 H7 2 rfl rfl rfl rfl rfl (by first | decide | (simp; done) | simp [putAt]) rfl<|fun w8 H8=>OE<|⟨fun hne => H8.pick [0, 1] (by decide), ?_⟩
 refine cT e98<|TQ rfl<|Xa rfl<|OE<|⟨fun hne => absurd rfl hne, ?_⟩
 refine cT e98<|mixt_nil<|cR e98<|Rq<|Xm rfl<|Xm rfl<|cOp e98<|OZ rfl<|OZ rfl<|cOp e98<|OZ rfl<|OZ rfl<|cOp e98<|OZ rfl<|Xu rfl rfl<|Xr e98<|J4 rfl<|J6<|Rq<|Xm rfl<|Xc rfl<|Xf fl27_2 rfl<|OV (EL ty25 rfl (H8.cell (i := 0) rfl rfl))<|cOp e98<|OQ (EC gf55 rfl) (cloneM A3 b.last.length k3 pm.flatten _ (hrm.move (by decide) ham (HB.all H8) hks).1 (ones_flatten hon) (by omega)) ?_
 rintro _ w9 ⟨gv, cv, sv, rfl, hmv, hcv, hgv0, Hc⟩
 have H9 := H8.call0 Hc
 refine OV (ex_makeFunc rfl rfl)<|OQ (EC gf58 rfl) (deleteM gv cv b.last.length pm hplen sv 59 _ (mkIs n.client) _ (H9.pick [3] (by decide)).here hpm hon (by omega) (by omega) hcv (prd_spent hm2 (H9.at (i := 1) rfl) rfl) (row_not H9 (i := 1) (is := [3]) rfl (by decide))) ?_
 rintro _ w10 ⟨sv2, rfl, hl2, Hd⟩
 have H10 := (H9.callr [3] rfl Hd).pick [0, 1, 2, 4] (by decide)
 have hmf := hm2.filter (f := fun p => !mkIs n.client p) (g := fun x => !decide (x.client = n.client)) (fun p x h => mkIs_neq h)
 have hmfl := hmf.len
 have hpf : Pl 7 (pm.filter fun p => !mkIs n.client p) := hpm.sub fun x hx => (List.mem_filter.1 hx).1
 have hfl3 : (pm.filter fun p => !mkIs n.client p).length ≤ pm.length := List.length_filter_le _ _
 have honf : ∀ p ∈ (pm.filter fun p => !mkIs n.client p), p.all (·.oneCell') = true := fun x hx => hon x (List.mem_filter.1 hx).1
 have HC := H10
 refine Xa rfl<|Xr e98<|Rq<|Xa rfl<|Xr e98<|J1<|J7<|run_loop (fun nQ lQ w => ∃ (i : Nat) (y : Int), (pm.filter fun p => !mkIs n.client p).length - i = nQ ∧ Fits [some (.pointer (some ⟨gb, 0, none⟩)), none, none, some (.pointer (some ⟨g1, 0, none⟩)), none, none, none, none, none, some (.slice (hd gv) (pm.filter fun p => !mkIs n.client p).length cv), some (.int .i64 y), none, none, none, none, none, none, none, none, none, none, none, none, none, none, none, none, none, none, none, none, none, none, none, none, none, none, none, none, none, none, none, none, none, none, none, none, none, none, none, none, none, none, none, none, none, none, none, none, none, none, none, none, none, none, none, none, none, none, none, none, none, none, none, none, none, none, none, none, none, none, none, none, none, none, none, none, none, none, none, none, none, none, none, none, none, none, none] lQ ∧ y = (i : Int) ∧ i ≤ (pm.filter fun p => !mkIs n.client p).length ∧ (∀ (k : Nat) (m : Mk), k < i → (b.last.filter fun x => !decide (x.client = n.client))[k]? = some m → m.client < n.client) ∧ Hp w10 w [] []) ((pm.filter fun p => !mkIs n.client p).length) ?_ ?_
 exact ⟨0, _, rfl, (fs (fn (fn (fs (fn (fn (fn (fn (fn (fs (fs (fn (fn (fn (fn (fn (fn (fn (fn (fn (fn (fn (fn (fn (fn (fn (fn (fn (fn (fn (fn (fn (fn (fn (fn (fn (fn (fn (fn (fn (fn (fn (fn (fn (fn (fn (fn (fn (fn (fn (fn (fn (fn (fn (fn (fn (fn (fn (fn (fn (fn (fn (fn (fn (fn (fn (fn (fn (fn (fn (fn (fn (fn (fn (fn (fn (fn (fn (fn (fn (fn (fn (fn (fn (fn (fn (fn (fn (fn (fn (fn (fn (fn (fn (fn (fn (fn (fn f0)))))))))))))))))))))))))))))))))))))))))))))))))))))))))))))))))))))))))))))))))))))))))))))))))), rfl, Nat.zero_le _, (fun k m h => by omega), Hp.refl _⟩
 rintro nQ lQ w11 ⟨i, y, rfl, hfit, rfl, hi, hlo, H11⟩
 obtain ⟨j, rfl⟩ := hfit.open
 refine cR e98 ?_
 clear hfit
 refine J1<|J1<|run_still mixed (by kernel_rfl) ?_
 rintro w12 hw12
 have H12 := Hp.drew H11; rw [← hw12] at H12
 refine SV (ex_move rfl)<|SV (ex_move rfl)<|SV (ES Tryz.underlying25 rfl)<|still_test (ex_lss rfl rfl) (fun hp73 => ?_) (fun hp73 => ?_)
 have hil : i < (pm.filter fun p => !mkIs n.client p).length := by omega
 obtain ⟨p1, hp1⟩ := get_of hil
 obtain ⟨x, hx, hR⟩ := hmf.getL hp1
 unfold MkR at hR
 subst hR
 have hc0 : ((pm.filter fun p => !mkIs n.client p).flatten ++ sv2)[0 + i * 7 + 0]? = some (.int .i64 x.client) := by
   have h1 := hpf.get hp1 (j := 0) (u := .int .i64 x.client) rfl
   show (_ ++ _)[0 + i * 7 + 0]? = _
   rw [Nat.zero_add, List.getElem?_append_left (lt_of_get h1)]; exact h1
 obtain ⟨gz, rfl⟩ := own_some HC (i := 3) rfl (by have := lt_of_get hc0; omega)
 refine SV (ex_move rfl)<|cStl e98<|still_yes rfl<|SV (ex_move rfl)<|still_yes rfl<|SV (ex_move rfl)<|cStl e98<|still_yes rfl<|SV (ex_idxN Tryz.underlying25 ty63 rfl rfl rfl hil)<|still_yes rfl<|SV (EF fl63_0 rfl)<|cStl e98<|still_yes rfl<|SV (EL ty3 rfl ((HC.callN H12).cell (i := 3) rfl hc0))<|still_yes rfl<|SV (EF fl45_6 rfl)<|cStl e98<|still_yes rfl<|SV (EL ty3 rfl ((HC.callN H12).cell (i := 1) rfl rfl))<|still_yes rfl<|still_test (ex_lss rfl rfl) (fun hp82 => ?_) (fun hp82 => ?_)
 refine SV (ex_pick_t rfl rfl)<|still_nil<|cR e98<|J3 rfl<|J6<|J7<|J2<|Xm rfl<|OV (ex_add rfl rfl (IntWalk.i64_in _ (by omega)))<|Xa rfl<|Xr e98<|run_nil (blk_normal ?_)
 refine run_nil (rnd_normal ?_)
 exact ⟨(pm.filter fun p => !mkIs n.client p).length - (i + 1), by omega, i + 1, _, rfl, (fs (fn (fn (fs (fn (fn (fn (fn (fn (fs (fs (fn (fn (fn (fn (fn (fn (fn (fn (fn (fn (fn (fn (fn (fn (fn (fn (fn (fn (fn (fn (fn (fn (fn (fn (fn (fn (fn (fn (fn (fn (fn (fn (fn (fn (fn (fn (fn (fn (fn (fn (fn (fn (fn (fn (fn (fn (fn (fn (fn (fn (fn (fn (fn (fn (fn (fn (fn (fn (fn (fn (fn (fn (fn (fn (fn (fn (fn (fn (fn (fn (fn (fn (fn (fn (fn (fn (fn (fn (fn (fn (fn (fn (fn (fn (fn (fn (fn f0)))))))))))))))))))))))))))))))))))))))))))))))))))))))))))))))))))))))))))))))))))))))))))))))))), by omega, by omega, fun k m hk hm => by
   rcases Nat.lt_or_eq_of_le (show k ≤ i by omega) with h | rfl
   · exact hlo k m h hm
   · rw [hx] at hm
     simp only [Option.some.injEq] at hm
     subst hm; exact hp82, H12⟩
 refine SV (ex_pick_t rfl rfl)<|still_nil<|cR e98<|J4 rfl<|J8<|rnd_exit<|blk_exit<|Rq ?_
 replace H12 := HC.callN H12
 refine Xm rfl<|Xm rfl<|Xm rfl<|Xf fl45_6 rfl<|cOp e98<|OV (EL ty3 rfl (H12.cell (i := 1) rfl rfl))<|Xf fl45_7 rfl<|OV (EL ty3 rfl (H12.cell (i := 1) rfl rfl))<|OV (EB ty63 pl63 rfl rfl)<|cOp e98<|ops_buildSlice Tryz.underlying25 ty63 H12 rfl (by decide) rfl<|fun w13 g13 H13 hg13=>OQ (EC gf60 rfl) (insertM _ cv i _ (pm.filter fun p => !mkIs n.client p).length (pm.filter fun p => !mkIs n.client p) rfl (mkC ⟨n.client, n.seq⟩) sv2 _ (H13.pick [3] (by decide)).here hpf honf (by omega) (by rw [hl2]; exact hcv) hgv0 (by omega) (H13.at (i := 4) rfl) rfl rfl (row_not H13 (i := 4) (is := [3]) rfl (by decide)) (by omega)) ?_
 rintro _ w14 ⟨gw, cw, sw, rfl, hnw, hcw, hgw, Hd⟩
 have H14 := (H13.callr [3] rfl Hd).pick [0, 1, 2, 5] (by decide)
 refine Xc rfl<|Xf fl27_2 rfl<|cOp e98<|OW ty25 H14 0 rfl rfl rfl rfl (by first | (simp; done) | simp [putAt]) rfl<|fun w15 H15=>Xr e98<|Rq<|Xa rfl<|Xr e98<|J5<|FN1 rfl rfl ?_
 have HW := HB.all H15
 have hput := putMk_del (v := ⟨n.client, n.seq⟩) (i := i) (mks_rise hg.mks).2 (by rw [← hmfl]; omega) hlo (.inr ⟨x, hx, hp82⟩)
 have hsp : spend b.last n.client n.seq = putMk b.last ⟨n.client, n.seq⟩ := spend_new (by omega) (hnq rfl)
 rw [← hput] at hsp
 have hln : ((b.last.filter fun x => !decide (x.client = n.client)).take i ++ (⟨n.client, n.seq⟩ : Mk) :: (b.last.filter fun x => !decide (x.client = n.client)).drop i).length = (pm.filter fun p => !mkIs n.client p).length + 1 := by rw [List.length_append, List.length_cons, List.length_take, List.length_drop, ← hmfl]; omega
 refine ⟨fun _ => ⟨rfl, _, HW.pick [0] (by decide), A1, k1, A9, k9, hd gw, cw, by rw [hsp, hln]; rfl, hb1.toS HW hks, hS9.toR H15 (fun x hx _ => ⟨hnb x hx, .inr (by omega)⟩), ?_⟩, fun h => absurd hmay h⟩
 rw [hsp]
 exact Sl.row HW (i := 3) rfl ((hpf.sub fun x hx => List.mem_of_mem_take hx).app fun x hx => by
   rcases List.mem_cons.1 hx with rfl | hx
   · rfl
   · exact hpf x (List.mem_of_mem_drop hx)) (by decide) ((hmf.take i).app ⟨rfl, hmf.drop i⟩) (fun b hb => row_new (ok := ok) HW (i := 3) rfl (fun c hc => by rw [List.mem_singleton.1 hc]; exact fun e => HW.ne (i := 3) (j := 0) (g := gb) (by rw [e]; rfl) rfl (by decide) rfl) b hb)
 refine SV (ex_move rfl)<|cStl e98<|still_no rfl<|still_no rfl<|cStl e98<|still_no rfl<|still_no rfl<|cStl e98<|still_no rfl<|still_no rfl<|cStl e98<|still_no rfl<|still_no rfl<|SV (ex_pick_f rfl rfl)<|still_nil<|cR e98<|J4 rfl<|J8<|rnd_exit<|blk_exit<|Rq ?_
 replace H12 := HC.callN H12
 refine Xm rfl<|Xm rfl<|Xm rfl<|Xf fl45_6 rfl<|cOp e98<|OV (EL ty3 rfl (H12.cell (i := 1) rfl rfl))<|Xf fl45_7 rfl<|OV (EL ty3 rfl (H12.cell (i := 1) rfl rfl))<|OV (EB ty63 pl63 rfl rfl)<|cOp e98<|ops_buildSlice Tryz.underlying25 ty63 H12 rfl (by decide) rfl<|fun w13 g13 H13 hg13=>OQ (EC gf60 rfl) (insertM _ cv i _ (pm.filter fun p => !mkIs n.client p).length (pm.filter fun p => !mkIs n.client p) rfl (mkC ⟨n.client, n.seq⟩) sv2 _ (H13.pick [3] (by decide)).here hpf honf (by omega) (by rw [hl2]; exact hcv) hgv0 (by omega) (H13.at (i := 4) rfl) rfl rfl (row_not H13 (i := 4) (is := [3]) rfl (by decide)) (by omega)) ?_
 rintro _ w14 ⟨gw, cw, sw, rfl, hnw, hcw, hgw, Hd⟩
 have H14 := (H13.callr [3] rfl Hd).pick [0, 1, 2, 5] (by decide)
 refine Xc rfl<|Xf fl27_2 rfl<|cOp e98<|OW ty25 H14 0 rfl rfl rfl rfl (by first | (simp; done) | simp [putAt]) rfl<|fun w15 H15=>Xr e98<|Rq<|Xa rfl<|Xr e98<|J5<|FN1 rfl rfl ?_
 have HW := HB.all H15
 have hput := putMk_del (v := ⟨n.client, n.seq⟩) (i := i) (mks_rise hg.mks).2 (by rw [← hmfl]; omega) hlo (.inl (by rw [← hmfl]; omega))
 have hsp : spend b.last n.client n.seq = putMk b.last ⟨n.client, n.seq⟩ := spend_new (by omega) (hnq rfl)
 rw [← hput] at hsp
 have hln : ((b.last.filter fun x => !decide (x.client = n.client)).take i ++ (⟨n.client, n.seq⟩ : Mk) :: (b.last.filter fun x => !decide (x.client = n.client)).drop i).length = (pm.filter fun p => !mkIs n.client p).length + 1 := by rw [List.length_append, List.length_cons, List.length_take, List.length_drop, ← hmfl]; omega
 refine ⟨fun _ => ⟨rfl, _, HW.pick [0] (by decide), A1, k1, A9, k9, hd gw, cw, by rw [hsp, hln]; rfl, hb1.toS HW hks, hS9.toR H15 (fun x hx _ => ⟨hnb x hx, .inr (by omega)⟩), ?_⟩, fun h => absurd hmay h⟩
 rw [hsp]
 exact Sl.row HW (i := 3) rfl ((hpf.sub fun x hx => List.mem_of_mem_take hx).app fun x hx => by
   rcases List.mem_cons.1 hx with rfl | hx
   · rfl
   · exact hpf x (List.mem_of_mem_drop hx)) (by decide) ((hmf.take i).app ⟨rfl, hmf.drop i⟩) (fun b hb => row_new (ok := ok) HW (i := 3) rfl (fun c hc => by rw [List.mem_singleton.1 hc]; exact fun e => HW.ne (i := 3) (j := 0) (g := gb) (by rw [e]; rfl) rfl (by decide) rfl) b hb)
 refine OE ?_
 refine ⟨fun hne => H6.pick [0, 1] (by decide), ?_⟩
 refine Tm rfl rfl<|TP rfl<|MV (fun wz hz => ex_extract rfl rfl)<|cT e98<|TP rfl<|MV (fun wz hz => ex_extract rfl rfl)<|TQ rfl<|OA ty63 H6<|fun w7 g7 H7 hg7=>OE<|⟨fun hne => H7.pick [0, 1] (by decide), ?_⟩
 refine cT e98<|TQ rfl<|OS ty63 H7 2 rfl rfl rfl rfl rfl (by first | decide | (simp; done) | simp [putAt]) rfl<|fun w8 H8=>OE<|⟨fun hne => H8.pick [0, 1] (by decide), ?_⟩
 refine cT e98<|TQ rfl<|Xa rfl<|OE<|⟨fun hne => absurd rfl hne, ?_⟩
 refine cT e98<|mixt_nil<|cR e98<|Rq<|Xm rfl<|Xm rfl<|cOp e98<|OY rfl<|Xf fl63_1 rfl<|OY rfl<|OV (EL ty3 rfl (H8.cell (i := 2) rfl rfl))<|cOp e98<|OY rfl<|Xf fl45_7 rfl<|OY rfl<|OV (EL ty3 rfl (H8.cell (i := 1) rfl rfl))<|cOp e98<|OY rfl<|OT (ex_geq rfl rfl) (fun hp61 => ?_) (fun hp61 => ?_)
 refine Xt rfl rfl<|Xr e98<|J3 rfl<|Rq<|Xa rfl<|Xr e98<|J5<|FN1 rfl rfl ?_
 have HW := HB.all H8
 refine ⟨fun _ => ⟨rfl, _, HW.pick [0] (by decide), A1, k1, A9, k9, A3, k3, by rw [spend_has (hyq rfl) (by omega)]; rfl, hb1.toS HW hks, hS9.toR H8 (fun x hx _ => ⟨hnb x hx, .inr (by omega)⟩), ?_⟩, fun h => absurd hmay h⟩
 rw [spend_has (hyq rfl) (by omega)]
 exact hb3.toM HW hks
 refine Xt rfl rfl<|Xr e98<|J4 rfl<|J6<|Rq<|Xm rfl<|Xc rfl<|Xf fl27_2 rfl<|OV (EL ty25 rfl (H8.cell (i := 0) rfl rfl))<|cOp e98<|OQ (EC gf55 rfl) (cloneM A3 b.last.length k3 pm.flatten _ (hrm.move (by decide) ham (HB.all H8) hks).1 (ones_flatten hon) (by omega)) ?_
 rintro _ w9 ⟨gv, cv, sv, rfl, hmv, hcv, hgv0, Hc⟩
 have H9 := H8.call0 Hc
 refine OV (ex_makeFunc rfl rfl)<|OQ (EC gf58 rfl) (deleteM gv cv b.last.length pm hplen sv 59 _ (mkIs n.client) _ (H9.pick [3] (by decide)).here hpm hon (by omega) (by omega) hcv (prd_spent hm2 (H9.at (i := 1) rfl) rfl) (row_not H9 (i := 1) (is := [3]) rfl (by decide))) ?_
 rintro _ w10 ⟨sv2, rfl, hl2, Hd⟩
 have H10 := (H9.callr [3] rfl Hd).pick [0, 1, 2, 4] (by decide)
 have hmf := hm2.filter (f := fun p => !mkIs n.client p) (g := fun x => !decide (x.client = n.client)) (fun p x h => mkIs_neq h)
 have hmfl := hmf.len
 have hpf : Pl 7 (pm.filter fun p => !mkIs n.client p) := hpm.sub fun x hx => (List.mem_filter.1 hx).1
 have hfl3 : (pm.filter fun p => !mkIs n.client p).length ≤ pm.length := List.length_filter_le _ _
 have honf : ∀ p ∈ (pm.filter fun p => !mkIs n.client p), p.all (·.oneCell') = true := fun x hx => hon x (List.mem_filter.1 hx).1
 have HC := H10
 refine Xa rfl<|Xr e98<|Rq<|Xa rfl<|Xr e98<|J1<|J7<|run_loop (fun nQ lQ w => ∃ (i : Nat) (y : Int), (pm.filter fun p => !mkIs n.client p).length - i = nQ ∧ Fits [some (.pointer (some ⟨gb, 0, none⟩)), none, none, some (.pointer (some ⟨g1, 0, none⟩)), none, none, none, none, none, some (.slice (hd gv) (pm.filter fun p => !mkIs n.client p).length cv), some (.int .i64 y), none, none, none, none, none, none, none, none, none, none, none, none, none, none, none, none, none, none, none, none, none, none, none, none, none, none, none, none, none, none, none, none, none, none, none, none, none, none, none, none, none, none, none, none, none, none, none, none, none, none, none, none, none, none, none, none, none, none, none, none, none, none, none, none, none, none, none, none, none, none, none, none, none, none, none, none, none, none, none, none, none, none, none, none, none, none, none] lQ ∧ y = (i : Int) ∧ i ≤ (pm.filter fun p => !mkIs n.client p).length ∧ (∀ (k : Nat) (m : Mk), k < i → (b.last.filter fun x => !decide (x.client = n.client))[k]? = some m → m.client < n.client) ∧ Hp w10 w [] []) ((pm.filter fun p => !mkIs n.client p).length) ?_ ?_
 exact ⟨0, _, rfl, (fs (fn (fn (fs (fn (fn (fn (fn (fn (fs (fs (fn (fn (fn (fn (fn (fn (fn (fn (fn (fn (fn (fn (fn (fn (fn (fn (fn (fn (fn (fn (fn (fn (fn (fn (fn (fn (fn (fn (fn (fn (fn (fn (fn (fn (fn (fn (fn (fn (fn (fn (fn (fn (fn (fn (fn (fn (fn (fn (fn (fn (fn (fn (fn (fn (fn (fn (fn (fn (fn (fn (fn (fn (fn (fn (fn (fn (fn (fn (fn (fn (fn (fn (fn (fn (fn (fn (fn (fn (fn (fn (fn (fn (fn (fn (fn (fn (fn f0)))))))))))))))))))))))))))))))))))))))))))))))))))))))))))))))))))))))))))))))))))))))))))))))))), rfl, Nat.zero_le _, (fun k m h => by omega), Hp.refl _⟩
 rintro nQ lQ w11 ⟨i, y, rfl, hfit, rfl, hi, hlo, H11⟩
 obtain ⟨j, rfl⟩ := hfit.open
 refine cR e98 ?_
 clear hfit
 refine J1<|J1<|run_still mixed (by kernel_rfl) ?_
 rintro w12 hw12
 have H12 := Hp.drew H11; rw [← hw12] at H12
 refine SV (ex_move rfl)<|SV (ex_move rfl)<|SV (ES Tryz.underlying25 rfl)<|still_test (ex_lss rfl rfl) (fun hp73 => ?_) (fun hp73 => ?_)
 have hil : i < (pm.filter fun p => !mkIs n.client p).length := by omega
 obtain ⟨p1, hp1⟩ := get_of hil
 obtain ⟨x, hx, hR⟩ := hmf.getL hp1
 unfold MkR at hR
 subst hR
 have hc0 : ((pm.filter fun p => !mkIs n.client p).flatten ++ sv2)[0 + i * 7 + 0]? = some (.int .i64 x.client) := by
   have h1 := hpf.get hp1 (j := 0) (u := .int .i64 x.client) rfl
   show (_ ++ _)[0 + i * 7 + 0]? = _
   rw [Nat.zero_add, List.getElem?_append_left (lt_of_get h1)]; exact h1
 obtain ⟨gz, rfl⟩ := own_some HC (i := 3) rfl (by have := lt_of_get hc0; omega)
 refine SV (ex_move rfl)<|cStl e98<|still_yes rfl<|SV (ex_move rfl)<|still_yes rfl<|SV (ex_move rfl)<|cStl e98<|still_yes rfl<|SV (ex_idxN Tryz.underlying25 ty63 rfl rfl rfl hil)<|still_yes rfl<|SV (EF fl63_0 rfl)<|cStl e98<|still_yes rfl<|SV (EL ty3 rfl ((HC.callN H12).cell (i := 3) rfl hc0))<|still_yes rfl<|SV (EF fl45_6 rfl)<|cStl e98<|still_yes rfl<|SV (EL ty3 rfl ((HC.callN H12).cell (i := 1) rfl rfl))<|still_yes rfl<|still_test (ex_lss rfl rfl) (fun hp82 => ?_) (fun hp82 => ?_)
 refine SV (ex_pick_t rfl rfl)<|still_nil<|cR e98<|J3 rfl<|J6<|J7<|J2<|Xm rfl<|OV (ex_add rfl rfl (IntWalk.i64_in _ (by omega)))<|Xa rfl<|Xr e98<|run_nil (blk_normal ?_)
 refine run_nil (rnd_normal ?_)
 exact ⟨(pm.filter fun p => !mkIs n.client p).length - (i + 1), by omega, i + 1, _, rfl, (fs (fn (fn (fs (fn (fn (fn (fn (fn (fs (fs (fn (fn (fn (fn (fn (fn (fn (fn (fn (fn (fn (fn (fn (fn (fn (fn (fn (fn (fn (fn (fn (fn (fn (fn (fn (fn (fn (fn (fn (fn (fn (fn (fn (fn (fn (fn (fn (fn (fn (fn (fn (fn (fn (fn (fn (fn (fn (fn (fn (fn (fn (fn (fn (fn (fn (fn (fn (fn (fn (fn (fn (fn (fn (fn (fn (fn (fn (fn (fn (fn (fn (fn (fn (fn (fn (fn (fn (fn (fn (fn (fn (fn (fn (fn (fn (fn (fn f0)))))))))))))))))))))))))))))))))))))))))))))))))))))))))))))))))))))))))))))))))))))))))))))))))), by omega, by omega, fun k m hk hm => by
   rcases Nat.lt_or_eq_of_le (show k ≤ i by omega) with h | rfl
   · exact hlo k m h hm
   · rw [hx] at hm
     simp only [Option.some.injEq] at hm
     subst hm; exact hp82, H12⟩
 refine SV (ex_pick_t rfl rfl)<|still_nil<|cR e98<|J4 rfl<|J8<|rnd_exit<|blk_exit<|Rq ?_
 replace H12 := HC.callN H12
 refine Xm rfl<|Xm rfl<|Xm rfl<|Xf fl45_6 rfl<|cOp e98<|OV (EL ty3 rfl (H12.cell (i := 1) rfl rfl))<|Xf fl45_7 rfl<|OV (EL ty3 rfl (H12.cell (i := 1) rfl rfl))<|OV (EB ty63 pl63 rfl rfl)<|cOp e98<|ops_buildSlice Tryz.underlying25 ty63 H12 rfl (by decide) rfl<|fun w13 g13 H13 hg13=>OQ (EC gf60 rfl) (insertM _ cv i _ (pm.filter fun p => !mkIs n.client p).length (pm.filter fun p => !mkIs n.client p) rfl (mkC ⟨n.client, n.seq⟩) sv2 _ (H13.pick [3] (by decide)).here hpf honf (by omega) (by rw [hl2]; exact hcv) hgv0 (by omega) (H13.at (i := 4) rfl) rfl rfl (row_not H13 (i := 4) (is := [3]) rfl (by decide)) (by omega)) ?_
 rintro _ w14 ⟨gw, cw, sw, rfl, hnw, hcw, hgw, Hd⟩
 have H14 := (H13.callr [3] rfl Hd).pick [0, 1, 2, 5] (by decide)
 refine Xc rfl<|Xf fl27_2 rfl<|cOp e98<|OW ty25 H14 0 rfl rfl rfl rfl (by first | (simp; done) | simp [putAt]) rfl<|fun w15 H15=>Xr e98<|Rq<|Xa rfl<|Xr e98<|J5<|FN1 rfl rfl ?_
 have HW := HB.all H15
 have hput := putMk_del (v := ⟨n.client, n.seq⟩) (i := i) (mks_rise hg.mks).2 (by rw [← hmfl]; omega) hlo (.inr ⟨x, hx, hp82⟩)
 have hsp : spend b.last n.client n.seq = putMk b.last ⟨n.client, n.seq⟩ := spend_more (by omega) (hyq rfl) (by omega)
 rw [← hput] at hsp
 have hln : ((b.last.filter fun x => !decide (x.client = n.client)).take i ++ (⟨n.client, n.seq⟩ : Mk) :: (b.last.filter fun x => !decide (x.client = n.client)).drop i).length = (pm.filter fun p => !mkIs n.client p).length + 1 := by rw [List.length_append, List.length_cons, List.length_take, List.length_drop, ← hmfl]; omega
 refine ⟨fun _ => ⟨rfl, _, HW.pick [0] (by decide), A1, k1, A9, k9, hd gw, cw, by rw [hsp, hln]; rfl, hb1.toS HW hks, hS9.toR H15 (fun x hx _ => ⟨hnb x hx, .inr (by omega)⟩), ?_⟩, fun h => absurd hmay h⟩
 rw [hsp]
 exact Sl.row HW (i := 3) rfl ((hpf.sub fun x hx => List.mem_of_mem_take hx).app fun x hx => by
   rcases List.mem_cons.1 hx with rfl | hx
   · rfl
   · exact hpf x (List.mem_of_mem_drop hx)) (by decide) ((hmf.take i).app ⟨rfl, hmf.drop i⟩) (fun b hb => row_new (ok := ok) HW (i := 3) rfl (fun c hc => by rw [List.mem_singleton.1 hc]; exact fun e => HW.ne (i := 3) (j := 0) (g := gb) (by rw [e]; rfl) rfl (by decide) rfl) b hb)
 refine SV (ex_move rfl)<|cStl e98<|still_no rfl<|still_no rfl<|cStl e98<|still_no rfl<|still_no rfl<|cStl e98<|still_no rfl<|still_no rfl<|cStl e98<|still_no rfl<|still_no rfl<|SV (ex_pick_f rfl rfl)<|still_nil<|cR e98<|J4 rfl<|J8<|rnd_exit<|blk_exit<|Rq ?_
 replace H12 := HC.callN H12
 refine Xm rfl<|Xm rfl<|Xm rfl<|Xf fl45_6 rfl<|cOp e98<|OV (EL ty3 rfl (H12.cell (i := 1) rfl rfl))<|Xf fl45_7 rfl<|OV (EL ty3 rfl (H12.cell (i := 1) rfl rfl))<|OV (EB ty63 pl63 rfl rfl)<|cOp e98<|ops_buildSlice Tryz.underlying25 ty63 H12 rfl (by decide) rfl<|fun w13 g13 H13 hg13=>OQ (EC gf60 rfl) (insertM _ cv i _ (pm.filter fun p => !mkIs n.client p).length (pm.filter fun p => !mkIs n.client p) rfl (mkC ⟨n.client, n.seq⟩) sv2 _ (H13.pick [3] (by decide)).here hpf honf (by omega) (by rw [hl2]; exact hcv) hgv0 (by omega) (H13.at (i := 4) rfl) rfl rfl (row_not H13 (i := 4) (is := [3]) rfl (by decide)) (by omega)) ?_
 rintro _ w14 ⟨gw, cw, sw, rfl, hnw, hcw, hgw, Hd⟩
 have H14 := (H13.callr [3] rfl Hd).pick [0, 1, 2, 5] (by decide)
 refine Xc rfl<|Xf fl27_2 rfl<|cOp e98<|OW ty25 H14 0 rfl rfl rfl rfl (by first | (simp; done) | simp [putAt]) rfl<|fun w15 H15=>Xr e98<|Rq<|Xa rfl<|Xr e98<|J5<|FN1 rfl rfl ?_
 have HW := HB.all H15
 have hput := putMk_del (v := ⟨n.client, n.seq⟩) (i := i) (mks_rise hg.mks).2 (by rw [← hmfl]; omega) hlo (.inl (by rw [← hmfl]; omega))
 have hsp : spend b.last n.client n.seq = putMk b.last ⟨n.client, n.seq⟩ := spend_more (by omega) (hyq rfl) (by omega)
 rw [← hput] at hsp
 have hln : ((b.last.filter fun x => !decide (x.client = n.client)).take i ++ (⟨n.client, n.seq⟩ : Mk) :: (b.last.filter fun x => !decide (x.client = n.client)).drop i).length = (pm.filter fun p => !mkIs n.client p).length + 1 := by rw [List.length_append, List.length_cons, List.length_take, List.length_drop, ← hmfl]; omega
 refine ⟨fun _ => ⟨rfl, _, HW.pick [0] (by decide), A1, k1, A9, k9, hd gw, cw, by rw [hsp, hln]; rfl, hb1.toS HW hks, hS9.toR H15 (fun x hx _ => ⟨hnb x hx, .inr (by omega)⟩), ?_⟩, fun h => absurd hmay h⟩
 rw [hsp]
 exact Sl.row HW (i := 3) rfl ((hpf.sub fun x hx => List.mem_of_mem_take hx).app fun x hx => by
   rcases List.mem_cons.1 hx with rfl | hx
   · rfl
   · exact hpf x (List.mem_of_mem_drop hx)) (by decide) ((hmf.take i).app ⟨rfl, hmf.drop i⟩) (fun b hb => row_new (ok := ok) HW (i := 3) rfl (fun c hc => by rw [List.mem_singleton.1 hc]; exact fun e => HW.ne (i := 3) (j := 0) (g := gb) (by rw [e]; rfl) rfl (by decide) rfl) b hb)
 refine TQ rfl<|OA ty63 H5<|fun w6 g6 H6 hg6=>OE<|⟨fun hne => H6.pick [0, 1] (by decide), ?_⟩
 refine cT e98<|TQ rfl<|OQ (EC gf57 rfl) (find_s A3 k3 b.last n.client (up ok w0.heap.size) _ (hb3.toM (HB.all H6) hks) (by omega) hg.mks) ?_
 rintro _ w7 ⟨mq, fq, rfl, hyq, hnq, Hd⟩
 have H7 := H6.callN Hd
 cases fq
 refine OE ?_
 refine ⟨fun hne => H7.pick [0, 1] (by decide), ?_⟩
 refine Tm rfl rfl<|TP rfl<|MV (fun wz hz => ex_extract rfl rfl)<|TP rfl<|MV (fun wz hz => ex_extract rfl rfl)<|TQ rfl<|OS ty63 H7 2 rfl rfl rfl rfl rfl (by first | decide | (simp; done) | simp [putAt]) rfl<|fun w8 H8=>OE<|⟨fun hne => H8.pick [0, 1] (by decide), ?_⟩
 refine cT e98<|TQ rfl<|Xa rfl<|OE<|⟨fun hne => absurd rfl hne, ?_⟩
 refine cT e98<|mixt_nil<|cR e98<|Rq<|Xm rfl<|Xm rfl<|cOp e98<|OZ rfl<|OZ rfl<|cOp e98<|OZ rfl<|OZ rfl<|cOp e98<|OZ rfl<|Xu rfl rfl<|Xr e98<|J4 rfl<|J6<|Rq<|Xm rfl<|Xc rfl<|Xf fl27_2 rfl<|OV (EL ty25 rfl (H8.cell (i := 0) rfl rfl))<|cOp e98<|OQ (EC gf55 rfl) (cloneM A3 b.last.length k3 pm.flatten _ (hrm.move (by decide) ham (HB.all H8) hks).1 (ones_flatten hon) (by omega)) ?_
 rintro _ w9 ⟨gv, cv, sv, rfl, hmv, hcv, hgv0, Hc⟩
 have H9 := H8.call0 Hc
 refine OV (ex_makeFunc rfl rfl)<|OQ (EC gf58 rfl) (deleteM gv cv b.last.length pm hplen sv 59 _ (mkIs n.client) _ (H9.pick [3] (by decide)).here hpm hon (by omega) (by omega) hcv (prd_spent hm2 (H9.at (i := 1) rfl) rfl) (row_not H9 (i := 1) (is := [3]) rfl (by decide))) ?_
 rintro _ w10 ⟨sv2, rfl, hl2, Hd⟩
 have H10 := (H9.callr [3] rfl Hd).pick [0, 1, 2, 4] (by decide)
 have hmf := hm2.filter (f := fun p => !mkIs n.client p) (g := fun x => !decide (x.client = n.client)) (fun p x h => mkIs_neq h)
 have hmfl := hmf.len
 have hpf : Pl 7 (pm.filter fun p => !mkIs n.client p) := hpm.sub fun x hx => (List.mem_filter.1 hx).1
 have hfl3 : (pm.filter fun p => !mkIs n.client p).length ≤ pm.length := List.length_filter_le _ _
 have honf : ∀ p ∈ (pm.filter fun p => !mkIs n.client p), p.all (·.oneCell') = true := fun x hx => hon x (List.mem_filter.1 hx).1
 have HC := H10
 refine Xa rfl<|Xr e98<|Rq<|Xa rfl<|Xr e98<|J1<|J7<|run_loop (fun nQ lQ w => ∃ (i : Nat) (y : Int), (pm.filter fun p => !mkIs n.client p).length - i = nQ ∧ Fits [some (.pointer (some ⟨gb, 0, none⟩)), none, none, some (.pointer (some ⟨g1, 0, none⟩)), none, none, none, none, none, some (.slice (hd gv) (pm.filter fun p => !mkIs n.client p).length cv), some (.int .i64 y), none, none, none, none, none, none, none, none, none, none, none, none, none, none, none, none, none, none, none, none, none, none, none, none, none, none, none, none, none, none, none, none, none, none, none, none, none, none, none, none, none, none, none, none, none, none, none, none, none, none, none, none, none, none, none, none, none, none, none, none, none, none, none, none, none, none, none, none, none, none, none, none, none, none, none, none, none, none, none, none, none, none, none, none, none, none, none] lQ ∧ y = (i : Int) ∧ i ≤ (pm.filter fun p => !mkIs n.client p).length ∧ (∀ (k : Nat) (m : Mk), k < i → (b.last.filter fun x => !decide (x.client = n.client))[k]? = some m → m.client < n.client) ∧ Hp w10 w [] []) ((pm.filter fun p => !mkIs n.client p).length) ?_ ?_
 exact ⟨0, _, rfl, (fs (fn (fn (fs (fn (fn (fn (fn (fn (fs (fs (fn (fn (fn (fn (fn (fn (fn (fn (fn (fn (fn (fn (fn (fn (fn (fn (fn (fn (fn (fn (fn (fn (fn (fn (fn (fn (fn (fn (fn (fn (fn (fn (fn (fn (fn (fn (fn (fn (fn (fn (fn (fn (fn (fn (fn (fn (fn (fn (fn (fn (fn (fn (fn (fn (fn (fn (fn (fn (fn (fn (fn (fn (fn (fn (fn (fn (fn (fn (fn (fn (fn (fn (fn (fn (fn (fn (fn (fn (fn (fn (fn (fn (fn (fn (fn (fn (fn f0)))))))))))))))))))))))))))))))))))))))))))))))))))))))))))))))))))))))))))))))))))))))))))))))))), rfl, Nat.zero_le _, (fun k m h => by omega), Hp.refl _⟩
 rintro nQ lQ w11 ⟨i, y, rfl, hfit, rfl, hi, hlo, H11⟩
 obtain ⟨j, rfl⟩ := hfit.open
 refine cR e98 ?_
 clear hfit
 refine J1<|J1<|run_still mixed (by kernel_rfl) ?_
 rintro w12 hw12
 have H12 := Hp.drew H11; rw [← hw12] at H12
 refine SV (ex_move rfl)<|SV (ex_move rfl)<|SV (ES Tryz.underlying25 rfl)<|still_test (ex_lss rfl rfl) (fun hp73 => ?_) (fun hp73 => ?_)
 have hil : i < (pm.filter fun p => !mkIs n.client p).length := by omega
 obtain ⟨p1, hp1⟩ := get_of hil
 obtain ⟨x, hx, hR⟩ := hmf.getL hp1
 unfold MkR at hR
 subst hR
 have hc0 : ((pm.filter fun p => !mkIs n.client p).flatten ++ sv2)[0 + i * 7 + 0]? = some (.int .i64 x.client) := by
   have h1 := hpf.get hp1 (j := 0) (u := .int .i64 x.client) rfl
   show (_ ++ _)[0 + i * 7 + 0]? = _
   rw [Nat.zero_add, List.getElem?_append_left (lt_of_get h1)]; exact h1
 obtain ⟨gz, rfl⟩ := own_some HC (i := 3) rfl (by have := lt_of_get hc0; omega)
 refine SV (ex_move rfl)<|cStl e98<|still_yes rfl<|SV (ex_move rfl)<|still_yes rfl<|SV (ex_move rfl)<|cStl e98<|still_yes rfl<|SV (ex_idxN Tryz.underlying25 ty63 rfl rfl rfl hil)<|still_yes rfl<|SV (EF fl63_0 rfl)<|cStl e98<|still_yes rfl<|SV (EL ty3 rfl ((HC.callN H12).cell (i := 3) rfl hc0))<|still_yes rfl<|SV (EF fl45_6 rfl)<|cStl e98<|still_yes rfl<|SV (EL ty3 rfl ((HC.callN H12).cell (i := 1) rfl rfl))<|still_yes rfl<|still_test (ex_lss rfl rfl) (fun hp82 => ?_) (fun hp82 => ?_)
 refine SV (ex_pick_t rfl rfl)<|still_nil<|cR e98<|J3 rfl<|J6<|J7<|J2<|Xm rfl<|OV (ex_add rfl rfl (IntWalk.i64_in _ (by omega)))<|Xa rfl<|Xr e98<|run_nil (blk_normal ?_)
 refine run_nil (rnd_normal ?_)
 exact ⟨(pm.filter fun p => !mkIs n.client p).length - (i + 1), by omega, i + 1, _, rfl, (fs (fn (fn (fs (fn (fn (fn (fn (fn (fs (fs (fn (fn (fn (fn (fn (fn (fn (fn (fn (fn (fn (fn (fn (fn (fn (fn (fn (fn (fn (fn (fn (fn (fn (fn (fn (fn (fn (fn (fn (fn (fn (fn (fn (fn (fn (fn (fn (fn (fn (fn (fn (fn (fn (fn (fn (fn (fn (fn (fn (fn (fn (fn (fn (fn (fn (fn (fn (fn (fn (fn (fn (fn (fn (fn (fn (fn (fn (fn (fn (fn (fn (fn (fn (fn (fn (fn (fn (fn (fn (fn (fn (fn (fn (fn (fn (fn (fn f0)))))))))))))))))))))))))))))))))))))))))))))))))))))))))))))))))))))))))))))))))))))))))))))))))), by omega, by omega, fun k m hk hm => by
   rcases Nat.lt_or_eq_of_le (show k ≤ i by omega) with h | rfl
   · exact hlo k m h hm
   · rw [hx] at hm
     simp only [Option.some.injEq] at hm
     subst hm; exact hp82, H12⟩
 refine SV (ex_pick_t rfl rfl)<|still_nil<|cR e98<|J4 rfl<|J8<|rnd_exit<|blk_exit<|Rq ?_
 replace H12 := HC.callN H12
 refine Xm rfl<|Xm rfl<|Xm rfl<|Xf fl45_6 rfl<|cOp e98<|OV (EL ty3 rfl (H12.cell (i := 1) rfl rfl))<|Xf fl45_7 rfl<|OV (EL ty3 rfl (H12.cell (i := 1) rfl rfl))<|OV (EB ty63 pl63 rfl rfl)<|cOp e98<|ops_buildSlice Tryz.underlying25 ty63 H12 rfl (by decide) rfl<|fun w13 g13 H13 hg13=>OQ (EC gf60 rfl) (insertM _ cv i _ (pm.filter fun p => !mkIs n.client p).length (pm.filter fun p => !mkIs n.client p) rfl (mkC ⟨n.client, n.seq⟩) sv2 _ (H13.pick [3] (by decide)).here hpf honf (by omega) (by rw [hl2]; exact hcv) hgv0 (by omega) (H13.at (i := 4) rfl) rfl rfl (row_not H13 (i := 4) (is := [3]) rfl (by decide)) (by omega)) ?_
 rintro _ w14 ⟨gw, cw, sw, rfl, hnw, hcw, hgw, Hd⟩
 have H14 := (H13.callr [3] rfl Hd).pick [0, 1, 2, 5] (by decide)
 refine Xc rfl<|Xf fl27_2 rfl<|cOp e98<|OW ty25 H14 0 rfl rfl rfl rfl (by first | (simp; done) | simp [putAt]) rfl<|fun w15 H15=>Xr e98<|Rq<|Xa rfl<|Xr e98<|J5<|FN1 rfl rfl ?_
 have HW := HB.all H15
 have hput := putMk_del (v := ⟨n.client, n.seq⟩) (i := i) (mks_rise hg.mks).2 (by rw [← hmfl]; omega) hlo (.inr ⟨x, hx, hp82⟩)
 have hsp : spend b.last n.client n.seq = putMk b.last ⟨n.client, n.seq⟩ := spend_new (by omega) (hnq rfl)
 rw [← hput] at hsp
 have hln : ((b.last.filter fun x => !decide (x.client = n.client)).take i ++ (⟨n.client, n.seq⟩ : Mk) :: (b.last.filter fun x => !decide (x.client = n.client)).drop i).length = (pm.filter fun p => !mkIs n.client p).length + 1 := by rw [List.length_append, List.length_cons, List.length_take, List.length_drop, ← hmfl]; omega
 refine ⟨fun _ => ⟨rfl, _, HW.pick [0] (by decide), A1, k1, A9, k9, hd gw, cw, by rw [hsp, hln]; rfl, hb1.toS HW hks, hS9.toR H15 (fun x hx _ => ⟨hnb x hx, .inr (by omega)⟩), ?_⟩, fun h => absurd hmay h⟩
 rw [hsp]
 exact Sl.row HW (i := 3) rfl ((hpf.sub fun x hx => List.mem_of_mem_take hx).app fun x hx => by
   rcases List.mem_cons.1 hx with rfl | hx
   · rfl
   · exact hpf x (List.mem_of_mem_drop hx)) (by decide) ((hmf.take i).app ⟨rfl, hmf.drop i⟩) (fun b hb => row_new (ok := ok) HW (i := 3) rfl (fun c hc => by rw [List.mem_singleton.1 hc]; exact fun e => HW.ne (i := 3) (j := 0) (g := gb) (by rw [e]; rfl) rfl (by decide) rfl) b hb)
 refine SV (ex_move rfl)<|cStl e98<|still_no rfl<|still_no rfl<|cStl e98<|still_no rfl<|still_no rfl<|cStl e98<|still_no rfl<|still_no rfl<|cStl e98<|still_no rfl<|still_no rfl<|SV (ex_pick_f rfl rfl)<|still_nil<|cR e98<|J4 rfl<|J8<|rnd_exit<|blk_exit<|Rq ?_
 replace H12 := HC.callN H12
 refine Xm rfl<|Xm rfl<|Xm rfl<|Xf fl45_6 rfl<|cOp e98<|OV (EL ty3 rfl (H12.cell (i := 1) rfl rfl))<|Xf fl45_7 rfl<|OV (EL ty3 rfl (H12.cell (i := 1) rfl rfl))<|OV (EB ty63 pl63 rfl rfl)<|cOp e98<|ops_buildSlice Tryz.underlying25 ty63 H12 rfl (by decide) rfl<|fun w13 g13 H13 hg13=>OQ (EC gf60 rfl) (insertM _ cv i _ (pm.filter fun p => !mkIs n.client p).length (pm.filter fun p => !mkIs n.client p) rfl (mkC ⟨n.client, n.seq⟩) sv2 _ (H13.pick [3] (by decide)).here hpf honf (by omega) (by rw [hl2]; exact hcv) hgv0 (by omega) (H13.at (i := 4) rfl) rfl rfl (row_not H13 (i := 4) (is := [3]) rfl (by decide)) (by omega)) ?_
 rintro _ w14 ⟨gw, cw, sw, rfl, hnw, hcw, hgw, Hd⟩
 have H14 := (H13.callr [3] rfl Hd).pick [0, 1, 2, 5] (by decide)
 refine Xc rfl<|Xf fl27_2 rfl<|cOp e98<|OW ty25 H14 0 rfl rfl rfl rfl (by first | (simp; done) | simp [putAt]) rfl<|fun w15 H15=>Xr e98<|Rq<|Xa rfl<|Xr e98<|J5<|FN1 rfl rfl ?_
 have HW := HB.all H15
 have hput := putMk_del (v := ⟨n.client, n.seq⟩) (i := i) (mks_rise hg.mks).2 (by rw [← hmfl]; omega) hlo (.inl (by rw [← hmfl]; omega))
 have hsp : spend b.last n.client n.seq = putMk b.last ⟨n.client, n.seq⟩ := spend_new (by omega) (hnq rfl)
 rw [← hput] at hsp
 have hln : ((b.last.filter fun x => !decide (x.client = n.client)).take i ++ (⟨n.client, n.seq⟩ : Mk) :: (b.last.filter fun x => !decide (x.client = n.client)).drop i).length = (pm.filter fun p => !mkIs n.client p).length + 1 := by rw [List.length_append, List.length_cons, List.length_take, List.length_drop, ← hmfl]; omega
 refine ⟨fun _ => ⟨rfl, _, HW.pick [0] (by decide), A1, k1, A9, k9, hd gw, cw, by rw [hsp, hln]; rfl, hb1.toS HW hks, hS9.toR H15 (fun x hx _ => ⟨hnb x hx, .inr (by omega)⟩), ?_⟩, fun h => absurd hmay h⟩
 rw [hsp]
 exact Sl.row HW (i := 3) rfl ((hpf.sub fun x hx => List.mem_of_mem_take hx).app fun x hx => by
   rcases List.mem_cons.1 hx with rfl | hx
   · rfl
   · exact hpf x (List.mem_of_mem_drop hx)) (by decide) ((hmf.take i).app ⟨rfl, hmf.drop i⟩) (fun b hb => row_new (ok := ok) HW (i := 3) rfl (fun c hc => by rw [List.mem_singleton.1 hc]; exact fun e => HW.ne (i := 3) (j := 0) (g := gb) (by rw [e]; rfl) rfl (by decide) rfl) b hb)
 refine OE ?_
 refine ⟨fun hne => H7.pick [0, 1] (by decide), ?_⟩
 refine Tm rfl rfl<|TP rfl<|MV (fun wz hz => ex_extract rfl rfl)<|TP rfl<|MV (fun wz hz => ex_extract rfl rfl)<|TQ rfl<|OS ty63 H7 2 rfl rfl rfl rfl rfl (by first | decide | (simp; done) | simp [putAt]) rfl<|fun w8 H8=>OE<|⟨fun hne => H8.pick [0, 1] (by decide), ?_⟩
 refine cT e98<|TQ rfl<|Xa rfl<|OE<|⟨fun hne => absurd rfl hne, ?_⟩
 refine cT e98<|mixt_nil<|cR e98<|Rq<|Xm rfl<|Xm rfl<|cOp e98<|OY rfl<|Xf fl63_1 rfl<|OY rfl<|OV (EL ty3 rfl (H8.cell (i := 2) rfl rfl))<|cOp e98<|OY rfl<|Xf fl45_7 rfl<|OY rfl<|OV (EL ty3 rfl (H8.cell (i := 1) rfl rfl))<|cOp e98<|OY rfl<|OT (ex_geq rfl rfl) (fun hp61 => ?_) (fun hp61 => ?_)
 refine Xt rfl rfl<|Xr e98<|J3 rfl<|Rq<|Xa rfl<|Xr e98<|J5<|FN1 rfl rfl ?_
 have HW := HB.all H8
 refine ⟨fun _ => ⟨rfl, _, HW.pick [0] (by decide), A1, k1, A9, k9, A3, k3, by rw [spend_has (hyq rfl) (by omega)]; rfl, hb1.toS HW hks, hS9.toR H8 (fun x hx _ => ⟨hnb x hx, .inr (by omega)⟩), ?_⟩, fun h => absurd hmay h⟩
 rw [spend_has (hyq rfl) (by omega)]
 exact hb3.toM HW hks
 refine Xt rfl rfl<|Xr e98<|J4 rfl<|J6<|Rq<|Xm rfl<|Xc rfl<|Xf fl27_2 rfl<|OV (EL ty25 rfl (H8.cell (i := 0) rfl rfl))<|cOp e98<|OQ (EC gf55 rfl) (cloneM A3 b.last.length k3 pm.flatten _ (hrm.move (by decide) ham (HB.all H8) hks).1 (ones_flatten hon) (by omega)) ?_
 rintro _ w9 ⟨gv, cv, sv, rfl, hmv, hcv, hgv0, Hc⟩
 have H9 := H8.call0 Hc
 refine OV (ex_makeFunc rfl rfl)<|OQ (EC gf58 rfl) (deleteM gv cv b.last.length pm hplen sv 59 _ (mkIs n.client) _ (H9.pick [3] (by decide)).here hpm hon (by omega) (by omega) hcv (prd_spent hm2 (H9.at (i := 1) rfl) rfl) (row_not H9 (i := 1) (is := [3]) rfl (by decide))) ?_
 rintro _ w10 ⟨sv2, rfl, hl2, Hd⟩
 have H10 := (H9.callr [3] rfl Hd).pick [0, 1, 2, 4] (by decide)
 have hmf := hm2.filter (f := fun p => !mkIs n.client p) (g := fun x => !decide (x.client = n.client)) (fun p x h => mkIs_neq h)
 have hmfl := hmf.len
 have hpf : Pl 7 (pm.filter fun p => !mkIs n.client p) := hpm.sub fun x hx => (List.mem_filter.1 hx).1
 have hfl3 : (pm.filter fun p => !mkIs n.client p).length ≤ pm.length := List.length_filter_le _ _
 have honf : ∀ p ∈ (pm.filter fun p => !mkIs n.client p), p.all (·.oneCell') = true := fun x hx => hon x (List.mem_filter.1 hx).1
 have HC := H10
 refine Xa rfl<|Xr e98<|Rq<|Xa rfl<|Xr e98<|J1<|J7<|run_loop (fun nQ lQ w => ∃ (i : Nat) (y : Int), (pm.filter fun p => !mkIs n.client p).length - i = nQ ∧ Fits [some (.pointer (some ⟨gb, 0, none⟩)), none, none, some (.pointer (some ⟨g1, 0, none⟩)), none, none, none, none, none, some (.slice (hd gv) (pm.filter fun p => !mkIs n.client p).length cv), some (.int .i64 y), none, none, none, none, none, none, none, none, none, none, none, none, none, none, none, none, none, none, none, none, none, none, none, none, none, none, none, none, none, none, none, none, none, none, none, none, none, none, none, none, none, none, none, none, none, none, none, none, none, none, none, none, none, none, none, none, none, none, none, none, none, none, none, none, none, none, none, none, none, none, none, none, none, none, none, none, none, none, none, none, none, none, none, none, none, none, none] lQ ∧ y = (i : Int) ∧ i ≤ (pm.filter fun p => !mkIs n.client p).length ∧ (∀ (k : Nat) (m : Mk), k < i → (b.last.filter fun x => !decide (x.client = n.client))[k]? = some m → m.client < n.client) ∧ Hp w10 w [] []) ((pm.filter fun p => !mkIs n.client p).length) ?_ ?_
 exact ⟨0, _, rfl, (fs (fn (fn (fs (fn (fn (fn (fn (fn (fs (fs (fn (fn (fn (fn (fn (fn (fn (fn (fn (fn (fn (fn (fn (fn (fn (fn (fn (fn (fn (fn (fn (fn (fn (fn (fn (fn (fn (fn (fn (fn (fn (fn (fn (fn (fn (fn (fn (fn (fn (fn (fn (fn (fn (fn (fn (fn (fn (fn (fn (fn (fn (fn (fn (fn (fn (fn (fn (fn (fn (fn (fn (fn (fn (fn (fn (fn (fn (fn (fn (fn (fn (fn (fn (fn (fn (fn (fn (fn (fn (fn (fn (fn (fn (fn (fn (fn (fn f0)))))))))))))))))))))))))))))))))))))))))))))))))))))))))))))))))))))))))))))))))))))))))))))))))), rfl, Nat.zero_le _, (fun k m h => by omega), Hp.refl _⟩
 rintro nQ lQ w11 ⟨i, y, rfl, hfit, rfl, hi, hlo, H11⟩
 obtain ⟨j, rfl⟩ := hfit.open
 refine cR e98 ?_
 clear hfit
 refine J1<|J1<|run_still mixed (by kernel_rfl) ?_
 rintro w12 hw12
 have H12 := Hp.drew H11; rw [← hw12] at H12
 refine SV (ex_move rfl)<|SV (ex_move rfl)<|SV (ES Tryz.underlying25 rfl)<|still_test (ex_lss rfl rfl) (fun hp73 => ?_) (fun hp73 => ?_)
 have hil : i < (pm.filter fun p => !mkIs n.client p).length := by omega
 obtain ⟨p1, hp1⟩ := get_of hil
 obtain ⟨x, hx, hR⟩ := hmf.getL hp1
 unfold MkR at hR
 subst hR
 have hc0 : ((pm.filter fun p => !mkIs n.client p).flatten ++ sv2)[0 + i * 7 + 0]? = some (.int .i64 x.client) := by
   have h1 := hpf.get hp1 (j := 0) (u := .int .i64 x.client) rfl
   show (_ ++ _)[0 + i * 7 + 0]? = _
   rw [Nat.zero_add, List.getElem?_append_left (lt_of_get h1)]; exact h1
 obtain ⟨gz, rfl⟩ := own_some HC (i := 3) rfl (by have := lt_of_get hc0; omega)
 refine SV (ex_move rfl)<|cStl e98<|still_yes rfl<|SV (ex_move rfl)<|still_yes rfl<|SV (ex_move rfl)<|cStl e98<|still_yes rfl<|SV (ex_idxN Tryz.underlying25 ty63 rfl rfl rfl hil)<|still_yes rfl<|SV (EF fl63_0 rfl)<|cStl e98<|still_yes rfl<|SV (EL ty3 rfl ((HC.callN H12).cell (i := 3) rfl hc0))<|still_yes rfl<|SV (EF fl45_6 rfl)<|cStl e98<|still_yes rfl<|SV (EL ty3 rfl ((HC.callN H12).cell (i := 1) rfl rfl))<|still_yes rfl<|still_test (ex_lss rfl rfl) (fun hp82 => ?_) (fun hp82 => ?_)
 refine SV (ex_pick_t rfl rfl)<|still_nil<|cR e98<|J3 rfl<|J6<|J7<|J2<|Xm rfl<|OV (ex_add rfl rfl (IntWalk.i64_in _ (by omega)))<|Xa rfl<|Xr e98<|run_nil (blk_normal ?_)
 refine run_nil (rnd_normal ?_)
 exact ⟨(pm.filter fun p => !mkIs n.client p).length - (i + 1), by omega, i + 1, _, rfl, (fs (fn (fn (fs (fn (fn (fn (fn (fn (fs (fs (fn (fn (fn (fn (fn (fn (fn (fn (fn (fn (fn (fn (fn (fn (fn (fn (fn (fn (fn (fn (fn (fn (fn (fn (fn (fn (fn (fn (fn (fn (fn (fn (fn (fn (fn (fn (fn (fn (fn (fn (fn (fn (fn (fn (fn (fn (fn (fn (fn (fn (fn (fn (fn (fn (fn (fn (fn (fn (fn (fn (fn (fn (fn (fn (fn (fn (fn (fn (fn (fn (fn (fn (fn (fn (fn (fn (fn (fn (fn (fn (fn (fn (fn (fn (fn (fn (fn f0)))))))))))))))))))))))))))))))))))))))))))))))))))))))))))))))))))))))))))))))))))))))))))))))))), by omega, by omega, fun k m hk hm => by
   rcases Nat.lt_or_eq_of_le (show k ≤ i by omega) with h | rfl
   · exact hlo k m h hm
   · rw [hx] at hm
     simp only [Option.some.injEq] at hm
     subst hm; exact hp82, H12⟩
 refine SV (ex_pick_t rfl rfl)<|still_nil<|cR e98<|J4 rfl<|J8<|rnd_exit<|blk_exit<|Rq ?_
 replace H12 := HC.callN H12
 refine Xm rfl<|Xm rfl<|Xm rfl<|Xf fl45_6 rfl<|cOp e98<|OV (EL ty3 rfl (H12.cell (i := 1) rfl rfl))<|Xf fl45_7 rfl<|OV (EL ty3 rfl (H12.cell (i := 1) rfl rfl))<|OV (EB ty63 pl63 rfl rfl)<|cOp e98<|ops_buildSlice Tryz.underlying25 ty63 H12 rfl (by decide) rfl<|fun w13 g13 H13 hg13=>OQ (EC gf60 rfl) (insertM _ cv i _ (pm.filter fun p => !mkIs n.client p).length (pm.filter fun p => !mkIs n.client p) rfl (mkC ⟨n.client, n.seq⟩) sv2 _ (H13.pick [3] (by decide)).here hpf honf (by omega) (by rw [hl2]; exact hcv) hgv0 (by omega) (H13.at (i := 4) rfl) rfl rfl (row_not H13 (i := 4) (is := [3]) rfl (by decide)) (by omega)) ?_
 rintro _ w14 ⟨gw, cw, sw, rfl, hnw, hcw, hgw, Hd⟩
 have H14 := (H13.callr [3] rfl Hd).pick [0, 1, 2, 5] (by decide)
 refine Xc rfl<|Xf fl27_2 rfl<|cOp e98<|OW ty25 H14 0 rfl rfl rfl rfl (by first | (simp; done) | simp [putAt]) rfl<|fun w15 H15=>Xr e98<|Rq<|Xa rfl<|Xr e98<|J5<|FN1 rfl rfl ?_
 have HW := HB.all H15
 have hput := putMk_del (v := ⟨n.client, n.seq⟩) (i := i) (mks_rise hg.mks).2 (by rw [← hmfl]; omega) hlo (.inr ⟨x, hx, hp82⟩)
 have hsp : spend b.last n.client n.seq = putMk b.last ⟨n.client, n.seq⟩ := spend_more (by omega) (hyq rfl) (by omega)
 rw [← hput] at hsp
 have hln : ((b.last.filter fun x => !decide (x.client = n.client)).take i ++ (⟨n.client, n.seq⟩ : Mk) :: (b.last.filter fun x => !decide (x.client = n.client)).drop i).length = (pm.filter fun p => !mkIs n.client p).length + 1 := by rw [List.length_append, List.length_cons, List.length_take, List.length_drop, ← hmfl]; omega
 refine ⟨fun _ => ⟨rfl, _, HW.pick [0] (by decide), A1, k1, A9, k9, hd gw, cw, by rw [hsp, hln]; rfl, hb1.toS HW hks, hS9.toR H15 (fun x hx _ => ⟨hnb x hx, .inr (by omega)⟩), ?_⟩, fun h => absurd hmay h⟩
 rw [hsp]
 exact Sl.row HW (i := 3) rfl ((hpf.sub fun x hx => List.mem_of_mem_take hx).app fun x hx => by
   rcases List.mem_cons.1 hx with rfl | hx
   · rfl
   · exact hpf x (List.mem_of_mem_drop hx)) (by decide) ((hmf.take i).app ⟨rfl, hmf.drop i⟩) (fun b hb => row_new (ok := ok) HW (i := 3) rfl (fun c hc => by rw [List.mem_singleton.1 hc]; exact fun e => HW.ne (i := 3) (j := 0) (g := gb) (by rw [e]; rfl) rfl (by decide) rfl) b hb)
 refine SV (ex_move rfl)<|cStl e98<|still_no rfl<|still_no rfl<|cStl e98<|still_no rfl<|still_no rfl<|cStl e98<|still_no rfl<|still_no rfl<|cStl e98<|still_no rfl<|still_no rfl<|SV (ex_pick_f rfl rfl)<|still_nil<|cR e98<|J4 rfl<|J8<|rnd_exit<|blk_exit<|Rq ?_
 replace H12 := HC.callN H12
 refine Xm rfl<|Xm rfl<|Xm rfl<|Xf fl45_6 rfl<|cOp e98<|OV (EL ty3 rfl (H12.cell (i := 1) rfl rfl))<|Xf fl45_7 rfl<|OV (EL ty3 rfl (H12.cell (i := 1) rfl rfl))<|OV (EB ty63 pl63 rfl rfl)<|cOp e98<|ops_buildSlice Tryz.underlying25 ty63 H12 rfl (by decide) rfl<|fun w13 g13 H13 hg13=>OQ (EC gf60 rfl) (insertM _ cv i _ (pm.filter fun p => !mkIs n.client p).length (pm.filter fun p => !mkIs n.client p) rfl (mkC ⟨n.client, n.seq⟩) sv2 _ (H13.pick [3] (by decide)).here hpf honf (by omega) (by rw [hl2]; exact hcv) hgv0 (by omega) (H13.at (i := 4) rfl) rfl rfl (row_not H13 (i := 4) (is := [3]) rfl (by decide)) (by omega)) ?_
 rintro _ w14 ⟨gw, cw, sw, rfl, hnw, hcw, hgw, Hd⟩
 have H14 := (H13.callr [3] rfl Hd).pick [0, 1, 2, 5] (by decide)
 refine Xc rfl<|Xf fl27_2 rfl<|cOp e98<|OW ty25 H14 0 rfl rfl rfl rfl (by first | (simp; done) | simp [putAt]) rfl<|fun w15 H15=>Xr e98<|Rq<|Xa rfl<|Xr e98<|J5<|FN1 rfl rfl ?_
 have HW := HB.all H15
 have hput := putMk_del (v := ⟨n.client, n.seq⟩) (i := i) (mks_rise hg.mks).2 (by rw [← hmfl]; omega) hlo (.inl (by rw [← hmfl]; omega))
 have hsp : spend b.last n.client n.seq = putMk b.last ⟨n.client, n.seq⟩ := spend_more (by omega) (hyq rfl) (by omega)
 rw [← hput] at hsp
 have hln : ((b.last.filter fun x => !decide (x.client = n.client)).take i ++ (⟨n.client, n.seq⟩ : Mk) :: (b.last.filter fun x => !decide (x.client = n.client)).drop i).length = (pm.filter fun p => !mkIs n.client p).length + 1 := by rw [List.length_append, List.length_cons, List.length_take, List.length_drop, ← hmfl]; omega
 refine ⟨fun _ => ⟨rfl, _, HW.pick [0] (by decide), A1, k1, A9, k9, hd gw, cw, by rw [hsp, hln]; rfl, hb1.toS HW hks, hS9.toR H15 (fun x hx _ => ⟨hnb x hx, .inr (by omega)⟩), ?_⟩, fun h => absurd hmay h⟩
 rw [hsp]
 exact Sl.row HW (i := 3) rfl ((hpf.sub fun x hx => List.mem_of_mem_take hx).app fun x hx => by
   rcases List.mem_cons.1 hx with rfl | hx
   · rfl
   · exact hpf x (List.mem_of_mem_drop hx)) (by decide) ((hmf.take i).app ⟨rfl, hmf.drop i⟩) (fun b hb => row_new (ok := ok) HW (i := 3) rfl (fun c hc => by rw [List.mem_singleton.1 hc]; exact fun e => HW.ne (i := 3) (j := 0) (g := gb) (by rw [e]; rfl) rfl (by decide) rfl) b hb)
 obtain rfl := hno hmay
 refine OE ?_
 refine ⟨fun hne => H3.pick [0, 1] (by decide), ?_⟩
 refine Zm rfl rfl<|MP rfl<|MV (fun wz hz => ex_extract rfl rfl)<|cZ e98<|MP rfl<|MV (fun wz hz => ex_extract rfl rfl)<|MP rfl<|MV (fun wz hz => ex_assign rfl)<|MO rfl<|Xa rfl<|OE<|⟨fun hne => absurd rfl hne, ?_⟩
 refine cZ e98<|ME<|cR e98<|J1<|Rq<|Xm rfl<|OT1 (ex_neq rfl rfl) (by decide)<|Xr e98<|J3 rfl<|Rq<|Xa rfl<|Xr e98<|J5<|FN1 rfl rfl<|⟨fun h => absurd h hmay, fun _ => ⟨rfl, H3.noRows⟩⟩
end Go.Proofs.YtbninklfoogmdaaGreat
/- Walks of layer 2, printed by wip/gen/codec.py. -/
namespace Go.Proofs.YtbninklfoogmdaaGreat
open Go Go.RowKit
set_option linter.unusedVariables false
attribute [local irreducible] Still Ops Does Cd
theorem promise_s (gs : Nat) (s : Sv) (A1 : Option Addr) (k1 : Nat) (A2 : Option Addr) (k2 : Nat) (A3 : Option Addr) (k3 : Nat) (n : Nt) (B1 : Option Addr) (j1 : Nat) (B2 : Option Addr) (j2 : Nat) (w0 : World) (hrow : w0.heap[gs]? = some (.cells [.int .i64 s.p.r, .int .i64 s.p.n, .slice A1 s.votes.length k1, .int .i64 s.index, .slice A2 s.image.length k2, .slice A3 s.entries.length k3].toArray 57 (0, 0))) (ok : Nat → Prop) (hok : ¬ ok gs) (hv1 : Sl (VtR w0 ok) 4 w0 ok A1 s.votes) (hv2 : Bs w0 ok A2 s.image) (hv3 : Sl (EnR w0 ok) 2 w0 ok A3 s.entries) : Does Tryz.prog 61 #[.pointer (some ⟨gs, 0, none⟩), .agg [.int .i64 n.kind, .int .i64 n.group, .int .i64 n.b.r, .int .i64 n.b.n, .int .i64 n.vote.slot, .int .i64 n.vote.b.r, .int .i64 n.vote.b.n, .slice B1 n.vote.val.length j1, .int .i64 n.entry.slot, .slice B2 n.entry.val.length j2, .int .i64 n.right.g, strV n.right.key, .int .i64 n.right.lease, .int .i64 n.right.net, .int .i64 n.client, .int .i64 n.seq].toArray] w0 (fun _ w' => ∃ cs', Hp w0 w' [gs] [((some gs, 57, cs') : Ent)] ∧ SvR w' (up ok w0.heap.size) cs' (s.raise n.b)) := by
 refine (promise_v gs s.p _ _ _ _ n B1 j1 B2 j2 w0 hrow).mono fun r w' H => ?_
 have hks := up_k (n := w0.heap.size) (ok := ok) (S := [gs]) fun x hx hg => hok (by rw [← List.mem_singleton.1 hg]; exact hx)
 rw [raise_eq]
 exact ⟨_, H, A1, k1, A2, k2, A3, k3, rfl, hv1.toV H hks, hv2.to H hks, hv3.toE H hks⟩
set_option maxRecDepth 100000 in
set_option maxHeartbeats 32000000 in
theorem goes_v (gb : Nat) (b : Bo) (A1 : Option Addr) (k1 : Nat) (A2 : Option Addr) (k2 : Nat) (A3 : Option Addr) (k3 : Nat) (n : Nt) (B1 : Option Addr) (j1 : Nat) (B2 : Option Addr) (j2 : Nat) (okn : Nat → Prop) (N : Nat) (w0 : World) (hrow : w0.heap[gb]? = some (.cells [.slice A1 b.groups.length k1, .slice A2 b.rights.length k2, .slice A3 b.last.length k3].toArray 27 (0, 0))) (ok : Nat → Prop) (hok : ¬ ok gb) (hb1 : Sl (SvR w0 ok) 6 w0 ok A1 b.groups) (hb2 : Sl RtR 4 w0 ok A2 b.rights) (hb3 : Sl MkR 7 w0 ok A3 b.last) (hokn : ¬ okn gb) (hbv : Bs w0 okn B1 n.vote.val) (hbe : Bs w0 okn B2 n.entry.val) (hg : Good b N) (hN : N ≤ 900000000000) : Does Tryz.prog 19 #[.pointer (some ⟨gb, 0, none⟩), .agg [.int .i64 n.kind, .int .i64 n.group, .int .i64 n.b.r, .int .i64 n.b.n, .int .i64 n.vote.slot, .int .i64 n.vote.b.r, .int .i64 n.vote.b.n, .slice B1 n.vote.val.length j1, .int .i64 n.entry.slot, .slice B2 n.entry.val.length j2, .int .i64 n.right.g, strV n.right.key, .int .i64 n.right.lease, .int .i64 n.right.net, .int .i64 n.client, .int .i64 n.seq].toArray] w0 (fun r w' => (∀ b', b.into n = some b' → r = .bool true ∧ ∃ cs', Hp w0 w' [gb] [((some gb, 27, cs') : Ent)] ∧ BoR w' (up ok w0.heap.size) cs' b') ∧ (b.into n = none → r = .bool false ∧ Hp w0 w' [gb] [])) := by
 refine does_of Tryz.func19 Tryz.ntmps19 rfl<|cR e58 ?_
 have H := Hp.old hrow
 have hks := up_k (n := w0.heap.size) (ok := ok) (S := [gb]) fun x hx hg => hok (by rw [← List.mem_singleton.1 hg]; exact hx)
 have hkB : ∀ x, ok x → x < w0.heap.size → x ∉ [gb] ∧ (ok x ∧ x < w0.heap.size) := fun x hx hl => ⟨(hks x hx hl).1, hx, hl⟩
 have hkn : ∀ x, okn x → x < w0.heap.size → x ∉ [gb] ∧ (okn x ∧ x < w0.heap.size) := fun x hx hl => ⟨fun hg => hokn (by rw [← List.mem_singleton.1 hg]; exact hx), hx, hl⟩
 obtain ⟨pg, hpg, hrg, hag, h2g⟩ := id hb1
 have hgl := h2g.len
 have h8 := hg.eight
 have hong := h2g.ones fun _ _ h => h.ones
 refine Rq<|ops_box rfl rfl H<|fun w1 g1 H1 hg1=>Xa rfl<|Xr e58<|J1<|Rq<|Xf fl45_0 rfl<|OV (EL ty3 rfl (H1.cell (i := 1) rfl rfl))<|OT (ex_eql rfl rfl) (fun hp9 => ?_) (fun hp9 => ?_)
 refine Xr e58<|J3 rfl<|Rq<|Xm rfl<|OV (EN ty45 rfl (vs := [.int .i64 n.kind, .int .i64 n.group, .int .i64 n.b.r, .int .i64 n.b.n, .int .i64 n.vote.slot, .int .i64 n.vote.b.r, .int .i64 n.vote.b.n, .slice B1 n.vote.val.length j1, .int .i64 n.entry.slot, .slice B2 n.entry.val.length j2, .int .i64 n.right.g, strV n.right.key, .int .i64 n.right.lease, .int .i64 n.right.net, .int .i64 n.client, .int .i64 n.seq]) rfl (H1.cellsR (i := 1) rfl rfl)) ?_
 have HZ0 := H1
 refine OQ (EC gf34 rfl) (spent_v gb b A1 k1 A2 k2 A3 k3 n B1 j1 B2 j2 N _ (H1.at (i := 0) rfl) (up ok w0.heap.size) (fun hh => by rcases hh with h | h; exact hok h; have := (Array.getElem?_eq_some_iff.1 hrow).1; omega) (hb1.toS H1 hks) (hb2.toR H1 hks) (hb3.toM H1 hks) hg hN) ?_
 rintro r w2 ⟨hyes, hno⟩
 by_cases hmay : mayR n.right
 obtain ⟨rfl, cs', Hd, hB⟩ := hyes hmay
 have hszp := HZ0.size
 have HN9 := (HZ0.callr [0] rfl Hd).pick [2] (by decide)
 refine Xa rfl<|Xr e58<|J5<|FN1 rfl rfl ?_
 exact ⟨fun b' hb' => by
   rw [into_right hp9 hmay] at hb'
   simp only [Option.some.injEq] at hb'
   subst hb'
   exact ⟨rfl, cs', HN9, hB.to (Hp.refl _) (fun x hx _ => ⟨by simp, by
     rcases hx with hx | hx
     · exact hx
     · exact .inr (by omega)⟩)⟩, fun h => by rw [into_right hp9 hmay] at h; cases h⟩
 obtain ⟨rfl, Hd⟩ := hno hmay
 have HN9 := (HZ0.callr [0] rfl Hd).noRows
 refine Xa rfl<|Xr e58<|J5<|FN1 rfl rfl<|⟨(fun b' hb' => by rw [into_wrong hp9 hmay] at hb'; cases hb'), fun _ => ⟨rfl, HN9⟩⟩
 refine Xr e58<|J4 rfl<|J6<|Rq<|Xf fl45_0 rfl<|OV (EL ty3 rfl (H1.cell (i := 1) rfl rfl))<|OQ (EC gf35 rfl) (table_v n.kind _) ?_
 rintro r w2 ⟨h0, h1, h2, h3, h4, Hd⟩
 have H2 := H1.callN Hd
 obtain hk | hk | hk | hk | hk : (n.kind < 1 ∨ 4 < n.kind) ∨ n.kind = 1 ∨ n.kind = 2 ∨ n.kind = 3 ∨ n.kind = 4 := by omega
 obtain rfl := h0 hk
 refine Xa rfl<|Xr e58<|J1<|Rq<|Xm rfl<|OV (ex_eql_func0 Tryz.underlying77 rfl)<|Xm rfl<|cOp e58<|OZ rfl<|OZ rfl<|cOp e58<|OZ rfl<|Xt rfl rfl<|Xm rfl<|cOp e58<|OZ rfl<|OZ rfl<|cOp e58<|OZ rfl<|Xt rfl rfl<|Xr e58<|J3 rfl<|Rq<|Xa rfl<|Xr e58<|J5<|FN1 rfl rfl<|⟨(fun b' hb' => by rw [into_bad hp9 (by omega)] at hb'; cases hb'), fun _ => ⟨rfl, H2.noRows⟩⟩
 obtain rfl := h1 hk
 refine Xa rfl<|Xr e58<|J1<|Rq<|Xm rfl<|OV (ex_eql_func Tryz.underlying77 rfl)<|Xm rfl<|cOp e58<|OY rfl<|Xf fl45_1 rfl<|OY rfl<|OV (EL ty3 rfl (H2.cell (i := 1) rfl rfl))<|cOp e58<|OY rfl<|OT (ex_lss rfl rfl) (fun hp21 => ?_) (fun hp21 => ?_)
 refine Xu rfl rfl<|Xm rfl<|cOp e58<|OZ rfl<|OZ rfl<|cOp e58<|OZ rfl<|Xt rfl rfl<|Xr e58<|J3 rfl<|Rq<|Xa rfl<|Xr e58<|J5<|FN1 rfl rfl<|⟨(fun b' hb' => by rw [into_bad hp9 (by omega)] at hb'; cases hb'), fun _ => ⟨rfl, H2.noRows⟩⟩
 refine Xu rfl rfl<|Xm rfl<|cOp e58<|OY rfl<|Xf fl45_1 rfl<|OY rfl<|OV (EL ty3 rfl (H2.cell (i := 1) rfl rfl))<|cOp e58<|OY rfl<|OT (ex_geq rfl rfl) (fun hp26 => ?_) (fun hp26 => ?_)
 refine Xu rfl rfl<|Xr e58<|J3 rfl<|Rq<|Xa rfl<|Xr e58<|J5<|FN1 rfl rfl<|⟨(fun b' hb' => by rw [into_bad hp9 (by omega)] at hb'; cases hb'), fun _ => ⟨rfl, H2.noRows⟩⟩
 obtain ⟨s, hs⟩ := get_of (l := b.groups) (j := n.group.toNat) (by omega)
 have hsl := lt_of_get hs
 obtain ⟨p1, hp1, hR⟩ := h2g.get hs
 obtain ⟨C1, q1, C2, q2, C3, q3, rfl, hv1, hv2, hv3⟩ := hR
 obtain ⟨a1, ha1⟩ := hrg.some_ (by omega)
 subst ha1
 have hce := (chk_iff s).1 (hg.chk s (mem_of hs))
 have hvfew := vts_few hce
 have hefew := ents_few hce
 have hglen := goes_len s n
 refine Xu rfl rfl<|Xr e58<|J4 rfl<|J6<|J1<|run_mixZ 9 [(true, 0), (true, 1), (true, 2), (true, 3), (true, 4), (true, 5), (true, 6), (true, 7), (false, 8), (false, 9)] H2 [0, 1] mixed (by decide) (by kernel_rfl) ?_
 rintro w3 hw3
 have H3 := Hp.drew H2; rw [← hw3] at H3
 refine Zm rfl rfl<|Zc rfl rfl<|Zf rfl fl27_0 rfl<|MP rfl<|MV (fun wz hz => EL ty23 rfl (hz.cell (i := 0) rfl rfl))<|cZ e58<|Zf rfl fl45_1 rfl<|MP rfl<|MV (fun wz hz => EL ty3 rfl (hz.cell (i := 1) rfl rfl))<|MP rfl<|MV (fun wz hz => EI Tryz.underlying23 ty57 rfl rfl (len := b.groups.length) (i := n.group.toNat) (by omega) (by omega) rfl)<|MP rfl<|MV (fun wz hz => EN ty57 rfl (vs := [.int .i64 s.p.r, .int .i64 s.p.n, .slice C1 s.votes.length q1, .int .i64 s.index, .slice C2 s.image.length q2, .slice C3 s.entries.length q3]) rfl ((hrg.move (by decide) hag hz hks).1.elem hpg hp1))<|cZ e58<|MO rfl<|OA ty57 H3<|fun w4 gs H4 hgs=>?_
 have hgs0 : w0.heap.size ≤ gs := by have := H3.size; omega
 refine OE ?_
 refine ⟨fun hne => H4.pick [0, 1] (by decide), ?_⟩
 refine cZ e58<|MO rfl<|OS ty57 H4 2 rfl rfl rfl rfl rfl (by first | decide | (simp; done) | simp [putAt]) rfl<|fun w5 H5=>OE<|⟨fun hne => absurd rfl hne, ?_⟩
 refine cZ e58<|ME<|cR e58<|Rq<|Xm rfl<|OV (EN ty45 rfl (vs := [.int .i64 n.kind, .int .i64 n.group, .int .i64 n.b.r, .int .i64 n.b.n, .int .i64 n.vote.slot, .int .i64 n.vote.b.r, .int .i64 n.vote.b.n, .slice B1 n.vote.val.length j1, .int .i64 n.entry.slot, .slice B2 n.entry.val.length j2, .int .i64 n.right.g, strV n.right.key, .int .i64 n.right.lease, .int .i64 n.right.net, .int .i64 n.client, .int .i64 n.seq]) rfl (H5.cellsR (i := 1) rfl rfl))<|OQ (ex_call_val gf61 rfl rfl) (promise_s gs s C1 q1 C2 q2 C3 q3 n B1 j1 B2 j2 _ (H5.at (i := 2) rfl) (fun x => ok x ∧ x < w0.heap.size) (fun hh => by have := hh.2; omega) (hv1.toV H5 hkB) (hv2.to H5 hkB) (hv3.toE H5 hkB)) ?_
 rintro _ w6 ⟨cs2, Hd, hsv⟩
 have hnp := Hp.fresh H5
 have hszp := H5.size
 have hpl := bl_place H5
 have HB := (H5.callr [2] rfl Hd).pick [0, 1, 3] (by decide)
 rw [← goes1 hk] at hsv
 obtain ⟨D1, e1, D2, e2, D3, e3, rfl, hw1, hw2, hw3⟩ := hsv
 have H6 := HB.here
 have hnk : ∀ x, up (fun x => ok x ∧ x < w0.heap.size) w5.heap.size x → x ∉ bl _ := fun x hx hb => (show False from by
   rcases hx with hx | hx
   · rcases hpl x hb with h | h
     · exact (hks x hx.1 hx.2).1 h
     · have := hx.2; omega
   · exact hnp x hx hb)
 have hkk : ∀ x, up (fun x => ok x ∧ x < w0.heap.size) w5.heap.size x → x < w6.heap.size → x ∉ bl _ ∧ up ok w0.heap.size x := fun x hx _ => ⟨hnk x hx, by
   rcases hx with hx | hx
   · exact .inl hx.1
   · exact .inr (by omega)⟩
 refine Xr e58<|J1<|Rq<|OV (EN ty57 rfl (vs := [.int .i64 (s.goes n).p.r, .int .i64 (s.goes n).p.n, .slice D1 (s.goes n).votes.length e1, .int .i64 (s.goes n).index, .slice D2 (s.goes n).image.length e2, .slice D3 (s.goes n).entries.length e3]) rfl (H6.cellsR (i := 2) rfl rfl))<|OQ (EC gf36 rfl) (check_p (s.goes n) D1 e1 D2 e2 D3 e3 _ _ hw1 hw2 hw3 (by omega) (by omega)) ?_
 rintro _ w7 ⟨e, rfl, hans, Hd⟩
 have H7 := H6.callN Hd
 refine OT (ex_neq rfl rfl) (fun hp41 => ?_) (fun hp41 => ?_)
 refine Xr e58<|J3 rfl<|Rq<|Xa rfl<|Xr e58<|J5<|FN1 rfl rfl<|⟨(fun b' hb' => by rw [into_no hp9 hs (by cases hc : chk (s.goes n) with | false => rfl | true => exact absurd (hans.1 hc) hp41)] at hb'; cases hb'), fun _ => ⟨rfl, (HB.all H7).noRows⟩⟩
 have hchk : chk (s.goes n) = true := by cases hc : chk (s.goes n) with | true => rfl | false => have := hans.2 hc; omega
 refine Xr e58<|J4 rfl<|J6<|Rq<|Xm rfl<|Xm rfl<|Xc rfl<|Xf fl27_0 rfl<|cOp e58<|OV (EL ty23 rfl (H7.cell (i := 0) rfl rfl))<|OQ (EC gf37 rfl) (cloneS (some a1) b.groups.length k1 pg.flatten _ (hrg.move (by decide) hag (HB.all H7) hks).1 (ones_flatten hong) (by rw [h8]; decide)) ?_
 rintro _ w8 ⟨gv, cv, sv, rfl, hmv, hcv, hgv0, Hc⟩
 have H8 := H7.call0 Hc
 obtain ⟨gw, rfl⟩ := own_some H8 (i := 3) rfl (by rw [List.length_append, hpg.len]; omega)
 refine Xc rfl<|Xf fl27_0 rfl<|cOp e58<|OW ty23 H8 0 rfl rfl rfl rfl (by first | (simp; done) | simp [putAt]) rfl<|fun w9 H9=>Xr e58<|J1<|run_mixZ 8 [(true, 0), (true, 1), (true, 2), (true, 3), (true, 4), (true, 5), (true, 6), (true, 7), (false, 8)] H9 [0, 1, 2, 3] mixed (by decide) (by kernel_rfl) ?_
 rintro w10 hw10
 have H10 := Hp.drew H9; rw [← hw10] at H10
 refine Zm rfl rfl<|Zc rfl rfl<|Zf rfl fl27_0 rfl<|MP rfl<|MV (fun wz hz => EL ty23 rfl (hz.cell (i := 0) rfl rfl))<|cZ e58<|Zf rfl fl45_1 rfl<|MP rfl<|MV (fun wz hz => EL ty3 rfl (hz.cell (i := 1) rfl rfl))<|MP rfl<|MV (fun wz hz => EN ty57 rfl (vs := [.int .i64 (s.goes n).p.r, .int .i64 (s.goes n).p.n, .slice D1 (s.goes n).votes.length e1, .int .i64 (s.goes n).index, .slice D2 (s.goes n).image.length e2, .slice D3 (s.goes n).entries.length e3]) rfl (hz.cellsR (i := 2) rfl rfl))<|MP rfl<|MV (fun wz hz => ex_idxN Tryz.underlying23 ty57 rfl rfl (len := b.groups.length) (i := n.group.toNat) (by omega) (by omega))<|cZ e58<|MO rfl<|OS ty57 H10 3 rfl rfl rfl rfl rfl (by rw [List.length_append, hpg.len]; show 0 + n.group.toNat * 6 + 6 ≤ _; omega) rfl<|fun w11 H11=>?_
 rw [store_elem (sz := 6) (vs := [.int .i64 (s.goes n).p.r, .int .i64 (s.goes n).p.n, .slice D1 (s.goes n).votes.length e1, .int .i64 (s.goes n).index, .slice D2 (s.goes n).image.length e2, .slice D3 (s.goes n).entries.length e3]) hpg (by omega) rfl] at H11
 refine OE ?_
 refine ⟨fun hne => absurd rfl hne, ?_⟩
 refine cZ e58<|ME<|cR e58<|Rq<|Xa rfl<|Xr e58<|J5<|FN1 rfl rfl ?_
 have HW := HB.all H11
 refine ⟨fun b' hb' => ?_, fun h => by rw [into_yes hp9 (by omega) hs hchk] at h; cases h⟩
 rw [into_yes hp9 (by omega) hs hchk] at hb'
 simp only [Option.some.injEq] at hb'
 subst hb'
 refine ⟨rfl, _, HW.pick [0] (by decide), hd (some gw), cv, A2, k2, A3, k3, by rw [List.length_set]; rfl, ?_, hb2.toR HW hks, hb3.toM HW hks⟩
 exact Sl.row HW (i := 3) rfl (hpg.set_len rfl) (by decide) ((h2g.imp (R' := SvR w11 (up ok w0.heap.size)) fun p x h => h.to HW hks).set _ ⟨D1, e1, D2, e2, D3, e3, rfl, hw1.toV H11 hkk, hw2.to H11 hkk, hw3.toE H11 hkk⟩) (fun c hc => row_new (ok := ok) HW (i := 3) rfl (fun c hc => by rw [List.mem_singleton.1 hc]; exact fun e => HW.ne (i := 3) (j := 0) (g := gb) (by rw [e]; rfl) rfl (by decide) rfl) c hc)
 obtain rfl := h2 hk
 refine Xa rfl<|Xr e58<|J1<|Rq<|Xm rfl<|OV (ex_eql_func Tryz.underlying77 rfl)<|Xm rfl<|cOp e58<|OY rfl<|Xf fl45_1 rfl<|OY rfl<|OV (EL ty3 rfl (H2.cell (i := 1) rfl rfl))<|cOp e58<|OY rfl<|OT (ex_lss rfl rfl) (fun hp21 => ?_) (fun hp21 => ?_)
 refine Xu rfl rfl<|Xm rfl<|cOp e58<|OZ rfl<|OZ rfl<|cOp e58<|OZ rfl<|Xt rfl rfl<|Xr e58<|J3 rfl<|Rq<|Xa rfl<|Xr e58<|J5<|FN1 rfl rfl<|⟨(fun b' hb' => by rw [into_bad hp9 (by omega)] at hb'; cases hb'), fun _ => ⟨rfl, H2.noRows⟩⟩
 refine Xu rfl rfl<|Xm rfl<|cOp e58<|OY rfl<|Xf fl45_1 rfl<|OY rfl<|OV (EL ty3 rfl (H2.cell (i := 1) rfl rfl))<|cOp e58<|OY rfl<|OT (ex_geq rfl rfl) (fun hp26 => ?_) (fun hp26 => ?_)
 refine Xu rfl rfl<|Xr e58<|J3 rfl<|Rq<|Xa rfl<|Xr e58<|J5<|FN1 rfl rfl<|⟨(fun b' hb' => by rw [into_bad hp9 (by omega)] at hb'; cases hb'), fun _ => ⟨rfl, H2.noRows⟩⟩
 obtain ⟨s, hs⟩ := get_of (l := b.groups) (j := n.group.toNat) (by omega)
 have hsl := lt_of_get hs
 obtain ⟨p1, hp1, hR⟩ := h2g.get hs
 obtain ⟨C1, q1, C2, q2, C3, q3, rfl, hv1, hv2, hv3⟩ := hR
 obtain ⟨a1, ha1⟩ := hrg.some_ (by omega)
 subst ha1
 have hce := (chk_iff s).1 (hg.chk s (mem_of hs))
 have hvfew := vts_few hce
 have hefew := ents_few hce
 have hglen := goes_len s n
 refine Xu rfl rfl<|Xr e58<|J4 rfl<|J6<|J1<|run_mixZ 9 [(true, 0), (true, 1), (true, 2), (true, 3), (true, 4), (true, 5), (true, 6), (true, 7), (false, 8), (false, 9)] H2 [0, 1] mixed (by decide) (by kernel_rfl) ?_
 rintro w3 hw3
 have H3 := Hp.drew H2; rw [← hw3] at H3
 refine Zm rfl rfl<|Zc rfl rfl<|Zf rfl fl27_0 rfl<|MP rfl<|MV (fun wz hz => EL ty23 rfl (hz.cell (i := 0) rfl rfl))<|cZ e58<|Zf rfl fl45_1 rfl<|MP rfl<|MV (fun wz hz => EL ty3 rfl (hz.cell (i := 1) rfl rfl))<|MP rfl<|MV (fun wz hz => EI Tryz.underlying23 ty57 rfl rfl (len := b.groups.length) (i := n.group.toNat) (by omega) (by omega) rfl)<|MP rfl<|MV (fun wz hz => EN ty57 rfl (vs := [.int .i64 s.p.r, .int .i64 s.p.n, .slice C1 s.votes.length q1, .int .i64 s.index, .slice C2 s.image.length q2, .slice C3 s.entries.length q3]) rfl ((hrg.move (by decide) hag hz hks).1.elem hpg hp1))<|cZ e58<|MO rfl<|OA ty57 H3<|fun w4 gs H4 hgs=>?_
 have hgs0 : w0.heap.size ≤ gs := by have := H3.size; omega
 refine OE ?_
 refine ⟨fun hne => H4.pick [0, 1] (by decide), ?_⟩
 refine cZ e58<|MO rfl<|OS ty57 H4 2 rfl rfl rfl rfl rfl (by first | decide | (simp; done) | simp [putAt]) rfl<|fun w5 H5=>OE<|⟨fun hne => absurd rfl hne, ?_⟩
 refine cZ e58<|ME<|cR e58<|Rq<|Xm rfl<|OV (EN ty45 rfl (vs := [.int .i64 n.kind, .int .i64 n.group, .int .i64 n.b.r, .int .i64 n.b.n, .int .i64 n.vote.slot, .int .i64 n.vote.b.r, .int .i64 n.vote.b.n, .slice B1 n.vote.val.length j1, .int .i64 n.entry.slot, .slice B2 n.entry.val.length j2, .int .i64 n.right.g, strV n.right.key, .int .i64 n.right.lease, .int .i64 n.right.net, .int .i64 n.client, .int .i64 n.seq]) rfl (H5.cellsR (i := 1) rfl rfl))<|OQ (ex_call_val gf62 rfl rfl) (vote_v gs s C1 q1 C2 q2 C3 q3 n B1 j1 B2 j2 (fun x => okn x ∧ x < w0.heap.size) _ (H5.at (i := 2) rfl) (fun x => ok x ∧ x < w0.heap.size) (fun hh => by have := hh.2; omega) (hv1.toV H5 hkB) (hv2.to H5 hkB) (hv3.toE H5 hkB) (fun hh => by have := hh.2; omega) (hbv.to H5 hkn) (rise_vt (vts_rise hce.v).2 _) (by omega) ⟨hce.i.1, hce.i.2.1⟩ hefew) ?_
 rintro _ w6 ⟨cs2, Hd, hsv⟩
 have hnp := Hp.fresh H5
 have hszp := H5.size
 have hpl := bl_place H5
 have HB := (H5.callr [2] rfl Hd).pick [0, 1, 3] (by decide)
 rw [← goes2 hk] at hsv
 obtain ⟨D1, e1, D2, e2, D3, e3, rfl, hw1, hw2, hw3⟩ := hsv
 have H6 := HB.here
 have hnk : ∀ x, up (fun x => ok x ∧ x < w0.heap.size) w5.heap.size x → x ∉ bl _ := fun x hx hb => (show False from by
   rcases hx with hx | hx
   · rcases hpl x hb with h | h
     · exact (hks x hx.1 hx.2).1 h
     · have := hx.2; omega
   · exact hnp x hx hb)
 have hkk : ∀ x, up (fun x => ok x ∧ x < w0.heap.size) w5.heap.size x → x < w6.heap.size → x ∉ bl _ ∧ up ok w0.heap.size x := fun x hx _ => ⟨hnk x hx, by
   rcases hx with hx | hx
   · exact .inl hx.1
   · exact .inr (by omega)⟩
 refine Xr e58<|J1<|Rq<|OV (EN ty57 rfl (vs := [.int .i64 (s.goes n).p.r, .int .i64 (s.goes n).p.n, .slice D1 (s.goes n).votes.length e1, .int .i64 (s.goes n).index, .slice D2 (s.goes n).image.length e2, .slice D3 (s.goes n).entries.length e3]) rfl (H6.cellsR (i := 2) rfl rfl))<|OQ (EC gf36 rfl) (check_p (s.goes n) D1 e1 D2 e2 D3 e3 _ _ hw1 hw2 hw3 (by omega) (by omega)) ?_
 rintro _ w7 ⟨e, rfl, hans, Hd⟩
 have H7 := H6.callN Hd
 refine OT (ex_neq rfl rfl) (fun hp41 => ?_) (fun hp41 => ?_)
 refine Xr e58<|J3 rfl<|Rq<|Xa rfl<|Xr e58<|J5<|FN1 rfl rfl<|⟨(fun b' hb' => by rw [into_no hp9 hs (by cases hc : chk (s.goes n) with | false => rfl | true => exact absurd (hans.1 hc) hp41)] at hb'; cases hb'), fun _ => ⟨rfl, (HB.all H7).noRows⟩⟩
 have hchk : chk (s.goes n) = true := by cases hc : chk (s.goes n) with | true => rfl | false => have := hans.2 hc; omega
 refine Xr e58<|J4 rfl<|J6<|Rq<|Xm rfl<|Xm rfl<|Xc rfl<|Xf fl27_0 rfl<|cOp e58<|OV (EL ty23 rfl (H7.cell (i := 0) rfl rfl))<|OQ (EC gf37 rfl) (cloneS (some a1) b.groups.length k1 pg.flatten _ (hrg.move (by decide) hag (HB.all H7) hks).1 (ones_flatten hong) (by rw [h8]; decide)) ?_
 rintro _ w8 ⟨gv, cv, sv, rfl, hmv, hcv, hgv0, Hc⟩
 have H8 := H7.call0 Hc
 obtain ⟨gw, rfl⟩ := own_some H8 (i := 3) rfl (by rw [List.length_append, hpg.len]; omega)
 refine Xc rfl<|Xf fl27_0 rfl<|cOp e58<|OW ty23 H8 0 rfl rfl rfl rfl (by first | (simp; done) | simp [putAt]) rfl<|fun w9 H9=>Xr e58<|J1<|run_mixZ 8 [(true, 0), (true, 1), (true, 2), (true, 3), (true, 4), (true, 5), (true, 6), (true, 7), (false, 8)] H9 [0, 1, 2, 3] mixed (by decide) (by kernel_rfl) ?_
 rintro w10 hw10
 have H10 := Hp.drew H9; rw [← hw10] at H10
 refine Zm rfl rfl<|Zc rfl rfl<|Zf rfl fl27_0 rfl<|MP rfl<|MV (fun wz hz => EL ty23 rfl (hz.cell (i := 0) rfl rfl))<|cZ e58<|Zf rfl fl45_1 rfl<|MP rfl<|MV (fun wz hz => EL ty3 rfl (hz.cell (i := 1) rfl rfl))<|MP rfl<|MV (fun wz hz => EN ty57 rfl (vs := [.int .i64 (s.goes n).p.r, .int .i64 (s.goes n).p.n, .slice D1 (s.goes n).votes.length e1, .int .i64 (s.goes n).index, .slice D2 (s.goes n).image.length e2, .slice D3 (s.goes n).entries.length e3]) rfl (hz.cellsR (i := 2) rfl rfl))<|MP rfl<|MV (fun wz hz => ex_idxN Tryz.underlying23 ty57 rfl rfl (len := b.groups.length) (i := n.group.toNat) (by omega) (by omega))<|cZ e58<|MO rfl<|OS ty57 H10 3 rfl rfl rfl rfl rfl (by rw [List.length_append, hpg.len]; show 0 + n.group.toNat * 6 + 6 ≤ _; omega) rfl<|fun w11 H11=>?_
 rw [store_elem (sz := 6) (vs := [.int .i64 (s.goes n).p.r, .int .i64 (s.goes n).p.n, .slice D1 (s.goes n).votes.length e1, .int .i64 (s.goes n).index, .slice D2 (s.goes n).image.length e2, .slice D3 (s.goes n).entries.length e3]) hpg (by omega) rfl] at H11
 refine OE ?_
 refine ⟨fun hne => absurd rfl hne, ?_⟩
 refine cZ e58<|ME<|cR e58<|Rq<|Xa rfl<|Xr e58<|J5<|FN1 rfl rfl ?_
 have HW := HB.all H11
 refine ⟨fun b' hb' => ?_, fun h => by rw [into_yes hp9 (by omega) hs hchk] at h; cases h⟩
 rw [into_yes hp9 (by omega) hs hchk] at hb'
 simp only [Option.some.injEq] at hb'
 subst hb'
 refine ⟨rfl, _, HW.pick [0] (by decide), hd (some gw), cv, A2, k2, A3, k3, by rw [List.length_set]; rfl, ?_, hb2.toR HW hks, hb3.toM HW hks⟩
 exact Sl.row HW (i := 3) rfl (hpg.set_len rfl) (by decide) ((h2g.imp (R' := SvR w11 (up ok w0.heap.size)) fun p x h => h.to HW hks).set _ ⟨D1, e1, D2, e2, D3, e3, rfl, hw1.toV H11 hkk, hw2.to H11 hkk, hw3.toE H11 hkk⟩) (fun c hc => row_new (ok := ok) HW (i := 3) rfl (fun c hc => by rw [List.mem_singleton.1 hc]; exact fun e => HW.ne (i := 3) (j := 0) (g := gb) (by rw [e]; rfl) rfl (by decide) rfl) c hc)
 obtain rfl := h3 hk
 refine Xa rfl<|Xr e58<|J1<|Rq<|Xm rfl<|OV (ex_eql_func Tryz.underlying77 rfl)<|Xm rfl<|cOp e58<|OY rfl<|Xf fl45_1 rfl<|OY rfl<|OV (EL ty3 rfl (H2.cell (i := 1) rfl rfl))<|cOp e58<|OY rfl<|OT (ex_lss rfl rfl) (fun hp21 => ?_) (fun hp21 => ?_)
 refine Xu rfl rfl<|Xm rfl<|cOp e58<|OZ rfl<|OZ rfl<|cOp e58<|OZ rfl<|Xt rfl rfl<|Xr e58<|J3 rfl<|Rq<|Xa rfl<|Xr e58<|J5<|FN1 rfl rfl<|⟨(fun b' hb' => by rw [into_bad hp9 (by omega)] at hb'; cases hb'), fun _ => ⟨rfl, H2.noRows⟩⟩
 refine Xu rfl rfl<|Xm rfl<|cOp e58<|OY rfl<|Xf fl45_1 rfl<|OY rfl<|OV (EL ty3 rfl (H2.cell (i := 1) rfl rfl))<|cOp e58<|OY rfl<|OT (ex_geq rfl rfl) (fun hp26 => ?_) (fun hp26 => ?_)
 refine Xu rfl rfl<|Xr e58<|J3 rfl<|Rq<|Xa rfl<|Xr e58<|J5<|FN1 rfl rfl<|⟨(fun b' hb' => by rw [into_bad hp9 (by omega)] at hb'; cases hb'), fun _ => ⟨rfl, H2.noRows⟩⟩
 obtain ⟨s, hs⟩ := get_of (l := b.groups) (j := n.group.toNat) (by omega)
 have hsl := lt_of_get hs
 obtain ⟨p1, hp1, hR⟩ := h2g.get hs
 obtain ⟨C1, q1, C2, q2, C3, q3, rfl, hv1, hv2, hv3⟩ := hR
 obtain ⟨a1, ha1⟩ := hrg.some_ (by omega)
 subst ha1
 have hce := (chk_iff s).1 (hg.chk s (mem_of hs))
 have hvfew := vts_few hce
 have hefew := ents_few hce
 have hglen := goes_len s n
 refine Xu rfl rfl<|Xr e58<|J4 rfl<|J6<|J1<|run_mixZ 9 [(true, 0), (true, 1), (true, 2), (true, 3), (true, 4), (true, 5), (true, 6), (true, 7), (false, 8), (false, 9)] H2 [0, 1] mixed (by decide) (by kernel_rfl) ?_
 rintro w3 hw3
 have H3 := Hp.drew H2; rw [← hw3] at H3
 refine Zm rfl rfl<|Zc rfl rfl<|Zf rfl fl27_0 rfl<|MP rfl<|MV (fun wz hz => EL ty23 rfl (hz.cell (i := 0) rfl rfl))<|cZ e58<|Zf rfl fl45_1 rfl<|MP rfl<|MV (fun wz hz => EL ty3 rfl (hz.cell (i := 1) rfl rfl))<|MP rfl<|MV (fun wz hz => EI Tryz.underlying23 ty57 rfl rfl (len := b.groups.length) (i := n.group.toNat) (by omega) (by omega) rfl)<|MP rfl<|MV (fun wz hz => EN ty57 rfl (vs := [.int .i64 s.p.r, .int .i64 s.p.n, .slice C1 s.votes.length q1, .int .i64 s.index, .slice C2 s.image.length q2, .slice C3 s.entries.length q3]) rfl ((hrg.move (by decide) hag hz hks).1.elem hpg hp1))<|cZ e58<|MO rfl<|OA ty57 H3<|fun w4 gs H4 hgs=>?_
 have hgs0 : w0.heap.size ≤ gs := by have := H3.size; omega
 refine OE ?_
 refine ⟨fun hne => H4.pick [0, 1] (by decide), ?_⟩
 refine cZ e58<|MO rfl<|OS ty57 H4 2 rfl rfl rfl rfl rfl (by first | decide | (simp; done) | simp [putAt]) rfl<|fun w5 H5=>OE<|⟨fun hne => absurd rfl hne, ?_⟩
 refine cZ e58<|ME<|cR e58<|Rq<|Xm rfl<|OV (EN ty45 rfl (vs := [.int .i64 n.kind, .int .i64 n.group, .int .i64 n.b.r, .int .i64 n.b.n, .int .i64 n.vote.slot, .int .i64 n.vote.b.r, .int .i64 n.vote.b.n, .slice B1 n.vote.val.length j1, .int .i64 n.entry.slot, .slice B2 n.entry.val.length j2, .int .i64 n.right.g, strV n.right.key, .int .i64 n.right.lease, .int .i64 n.right.net, .int .i64 n.client, .int .i64 n.seq]) rfl (H5.cellsR (i := 1) rfl rfl))<|OQ (ex_call_val gf63 rfl rfl) (entry_v gs s C1 q1 C2 q2 C3 q3 n B1 j1 B2 j2 (fun x => okn x ∧ x < w0.heap.size) _ (H5.at (i := 2) rfl) (fun x => ok x ∧ x < w0.heap.size) (fun hh => by have := hh.2; omega) (hv1.toV H5 hkB) (hv2.to H5 hkB) (hv3.toE H5 hkB) (fun hh => by have := hh.2; omega) (hbe.to H5 hkn) (by omega) ⟨hce.i.1, hce.i.2.1⟩ hefew) ?_
 rintro _ w6 ⟨cs2, Hd, hsv⟩
 have hnp := Hp.fresh H5
 have hszp := H5.size
 have hpl := bl_place H5
 have HB := (H5.callr [2] rfl Hd).pick [0, 1, 3] (by decide)
 rw [← goes3 hk] at hsv
 obtain ⟨D1, e1, D2, e2, D3, e3, rfl, hw1, hw2, hw3⟩ := hsv
 have H6 := HB.here
 have hnk : ∀ x, up (fun x => ok x ∧ x < w0.heap.size) w5.heap.size x → x ∉ bl _ := fun x hx hb => (show False from by
   rcases hx with hx | hx
   · rcases hpl x hb with h | h
     · exact (hks x hx.1 hx.2).1 h
     · have := hx.2; omega
   · exact hnp x hx hb)
 have hkk : ∀ x, up (fun x => ok x ∧ x < w0.heap.size) w5.heap.size x → x < w6.heap.size → x ∉ bl _ ∧ up ok w0.heap.size x := fun x hx _ => ⟨hnk x hx, by
   rcases hx with hx | hx
   · exact .inl hx.1
   · exact .inr (by omega)⟩
 refine Xr e58<|J1<|Rq<|OV (EN ty57 rfl (vs := [.int .i64 (s.goes n).p.r, .int .i64 (s.goes n).p.n, .slice D1 (s.goes n).votes.length e1, .int .i64 (s.goes n).index, .slice D2 (s.goes n).image.length e2, .slice D3 (s.goes n).entries.length e3]) rfl (H6.cellsR (i := 2) rfl rfl))<|OQ (EC gf36 rfl) (check_p (s.goes n) D1 e1 D2 e2 D3 e3 _ _ hw1 hw2 hw3 (by omega) (by omega)) ?_
 rintro _ w7 ⟨e, rfl, hans, Hd⟩
 have H7 := H6.callN Hd
 refine OT (ex_neq rfl rfl) (fun hp41 => ?_) (fun hp41 => ?_)
 refine Xr e58<|J3 rfl<|Rq<|Xa rfl<|Xr e58<|J5<|FN1 rfl rfl<|⟨(fun b' hb' => by rw [into_no hp9 hs (by cases hc : chk (s.goes n) with | false => rfl | true => exact absurd (hans.1 hc) hp41)] at hb'; cases hb'), fun _ => ⟨rfl, (HB.all H7).noRows⟩⟩
 have hchk : chk (s.goes n) = true := by cases hc : chk (s.goes n) with | true => rfl | false => have := hans.2 hc; omega
 refine Xr e58<|J4 rfl<|J6<|Rq<|Xm rfl<|Xm rfl<|Xc rfl<|Xf fl27_0 rfl<|cOp e58<|OV (EL ty23 rfl (H7.cell (i := 0) rfl rfl))<|OQ (EC gf37 rfl) (cloneS (some a1) b.groups.length k1 pg.flatten _ (hrg.move (by decide) hag (HB.all H7) hks).1 (ones_flatten hong) (by rw [h8]; decide)) ?_
 rintro _ w8 ⟨gv, cv, sv, rfl, hmv, hcv, hgv0, Hc⟩
 have H8 := H7.call0 Hc
 obtain ⟨gw, rfl⟩ := own_some H8 (i := 3) rfl (by rw [List.length_append, hpg.len]; omega)
 refine Xc rfl<|Xf fl27_0 rfl<|cOp e58<|OW ty23 H8 0 rfl rfl rfl rfl (by first | (simp; done) | simp [putAt]) rfl<|fun w9 H9=>Xr e58<|J1<|run_mixZ 8 [(true, 0), (true, 1), (true, 2), (true, 3), (true, 4), (true, 5), (true, 6), (true, 7), (false, 8)] H9 [0, 1, 2, 3] mixed (by decide) (by kernel_rfl) ?_
 rintro w10 hw10
 have H10 := Hp.drew H9; rw [← hw10] at H10
 refine Zm rfl rfl<|Zc rfl rfl<|Zf rfl fl27_0 rfl<|MP rfl<|MV (fun wz hz => EL ty23 rfl (hz.cell (i := 0) rfl rfl))<|cZ e58<|Zf rfl fl45_1 rfl<|MP rfl<|MV (fun wz hz => EL ty3 rfl (hz.cell (i := 1) rfl rfl))<|MP rfl<|MV (fun wz hz => EN ty57 rfl (vs := [.int .i64 (s.goes n).p.r, .int .i64 (s.goes n).p.n, .slice D1 (s.goes n).votes.length e1, .int .i64 (s.goes n).index, .slice D2 (s.goes n).image.length e2, .slice D3 (s.goes n).entries.length e3]) rfl (hz.cellsR (i := 2) rfl rfl))<|MP rfl<|MV (fun wz hz => ex_idxN Tryz.underlying23 ty57 rfl rfl (len := b.groups.length) (i := n.group.toNat) (by omega) (by omega))<|cZ e58<|MO rfl<|OS ty57 H10 3 rfl rfl rfl rfl rfl (by rw [List.length_append, hpg.len]; show 0 + n.group.toNat * 6 + 6 ≤ _; omega) rfl<|fun w11 H11=>?_
 rw [store_elem (sz := 6) (vs := [.int .i64 (s.goes n).p.r, .int .i64 (s.goes n).p.n, .slice D1 (s.goes n).votes.length e1, .int .i64 (s.goes n).index, .slice D2 (s.goes n).image.length e2, .slice D3 (s.goes n).entries.length e3]) hpg (by omega) rfl] at H11
 refine OE ?_
 refine ⟨fun hne => absurd rfl hne, ?_⟩
 refine cZ e58<|ME<|cR e58<|Rq<|Xa rfl<|Xr e58<|J5<|FN1 rfl rfl ?_
 have HW := HB.all H11
 refine ⟨fun b' hb' => ?_, fun h => by rw [into_yes hp9 (by omega) hs hchk] at h; cases h⟩
 rw [into_yes hp9 (by omega) hs hchk] at hb'
 simp only [Option.some.injEq] at hb'
 subst hb'
 refine ⟨rfl, _, HW.pick [0] (by decide), hd (some gw), cv, A2, k2, A3, k3, by rw [List.length_set]; rfl, ?_, hb2.toR HW hks, hb3.toM HW hks⟩
 exact Sl.row HW (i := 3) rfl (hpg.set_len rfl) (by decide) ((h2g.imp (R' := SvR w11 (up ok w0.heap.size)) fun p x h => h.to HW hks).set _ ⟨D1, e1, D2, e2, D3, e3, rfl, hw1.toV H11 hkk, hw2.to H11 hkk, hw3.toE H11 hkk⟩) (fun c hc => row_new (ok := ok) HW (i := 3) rfl (fun c hc => by rw [List.mem_singleton.1 hc]; exact fun e => HW.ne (i := 3) (j := 0) (g := gb) (by rw [e]; rfl) rfl (by decide) rfl) c hc)
 obtain rfl := h4 hk
 refine Xa rfl<|Xr e58<|J1<|Rq<|Xm rfl<|OV (ex_eql_func Tryz.underlying77 rfl)<|Xm rfl<|cOp e58<|OY rfl<|Xf fl45_1 rfl<|OY rfl<|OV (EL ty3 rfl (H2.cell (i := 1) rfl rfl))<|cOp e58<|OY rfl<|OT (ex_lss rfl rfl) (fun hp21 => ?_) (fun hp21 => ?_)
 refine Xu rfl rfl<|Xm rfl<|cOp e58<|OZ rfl<|OZ rfl<|cOp e58<|OZ rfl<|Xt rfl rfl<|Xr e58<|J3 rfl<|Rq<|Xa rfl<|Xr e58<|J5<|FN1 rfl rfl<|⟨(fun b' hb' => by rw [into_bad hp9 (by omega)] at hb'; cases hb'), fun _ => ⟨rfl, H2.noRows⟩⟩
 refine Xu rfl rfl<|Xm rfl<|cOp e58<|OY rfl<|Xf fl45_1 rfl<|OY rfl<|OV (EL ty3 rfl (H2.cell (i := 1) rfl rfl))<|cOp e58<|OY rfl<|OT (ex_geq rfl rfl) (fun hp26 => ?_) (fun hp26 => ?_)
 refine Xu rfl rfl<|Xr e58<|J3 rfl<|Rq<|Xa rfl<|Xr e58<|J5<|FN1 rfl rfl<|⟨(fun b' hb' => by rw [into_bad hp9 (by omega)] at hb'; cases hb'), fun _ => ⟨rfl, H2.noRows⟩⟩
 obtain ⟨s, hs⟩ := get_of (l := b.groups) (j := n.group.toNat) (by omega)
 have hsl := lt_of_get hs
 obtain ⟨p1, hp1, hR⟩ := h2g.get hs
 obtain ⟨C1, q1, C2, q2, C3, q3, rfl, hv1, hv2, hv3⟩ := hR
 obtain ⟨a1, ha1⟩ := hrg.some_ (by omega)
 subst ha1
 have hce := (chk_iff s).1 (hg.chk s (mem_of hs))
 have hvfew := vts_few hce
 have hefew := ents_few hce
 have hglen := goes_len s n
 refine Xu rfl rfl<|Xr e58<|J4 rfl<|J6<|J1<|run_mixZ 9 [(true, 0), (true, 1), (true, 2), (true, 3), (true, 4), (true, 5), (true, 6), (true, 7), (false, 8), (false, 9)] H2 [0, 1] mixed (by decide) (by kernel_rfl) ?_
 rintro w3 hw3
 have H3 := Hp.drew H2; rw [← hw3] at H3
 refine Zm rfl rfl<|Zc rfl rfl<|Zf rfl fl27_0 rfl<|MP rfl<|MV (fun wz hz => EL ty23 rfl (hz.cell (i := 0) rfl rfl))<|cZ e58<|Zf rfl fl45_1 rfl<|MP rfl<|MV (fun wz hz => EL ty3 rfl (hz.cell (i := 1) rfl rfl))<|MP rfl<|MV (fun wz hz => EI Tryz.underlying23 ty57 rfl rfl (len := b.groups.length) (i := n.group.toNat) (by omega) (by omega) rfl)<|MP rfl<|MV (fun wz hz => EN ty57 rfl (vs := [.int .i64 s.p.r, .int .i64 s.p.n, .slice C1 s.votes.length q1, .int .i64 s.index, .slice C2 s.image.length q2, .slice C3 s.entries.length q3]) rfl ((hrg.move (by decide) hag hz hks).1.elem hpg hp1))<|cZ e58<|MO rfl<|OA ty57 H3<|fun w4 gs H4 hgs=>?_
 have hgs0 : w0.heap.size ≤ gs := by have := H3.size; omega
 refine OE ?_
 refine ⟨fun hne => H4.pick [0, 1] (by decide), ?_⟩
 refine cZ e58<|MO rfl<|OS ty57 H4 2 rfl rfl rfl rfl rfl (by first | decide | (simp; done) | simp [putAt]) rfl<|fun w5 H5=>OE<|⟨fun hne => absurd rfl hne, ?_⟩
 refine cZ e58<|ME<|cR e58<|Rq<|Xm rfl<|OV (EN ty45 rfl (vs := [.int .i64 n.kind, .int .i64 n.group, .int .i64 n.b.r, .int .i64 n.b.n, .int .i64 n.vote.slot, .int .i64 n.vote.b.r, .int .i64 n.vote.b.n, .slice B1 n.vote.val.length j1, .int .i64 n.entry.slot, .slice B2 n.entry.val.length j2, .int .i64 n.right.g, strV n.right.key, .int .i64 n.right.lease, .int .i64 n.right.net, .int .i64 n.client, .int .i64 n.seq]) rfl (H5.cellsR (i := 1) rfl rfl))<|OQ (ex_call_val gf64 rfl rfl) (image_v gs s C1 q1 C2 q2 C3 q3 n B1 j1 B2 j2 (fun x => okn x ∧ x < w0.heap.size) _ (H5.at (i := 2) rfl) (fun x => ok x ∧ x < w0.heap.size) (fun hh => by have := hh.2; omega) (hv1.toV H5 hkB) (hv2.to H5 hkB) (hv3.toE H5 hkB) (fun hh => by have := hh.2; omega) (hbe.to H5 hkn) (by omega) (fun x hx => by obtain ⟨i, hi⟩ := List.getElem?_of_mem hx; exact (ents_slot hce.e i x hi).2.1) ⟨hce.i.1, hce.i.2.1⟩ hefew) ?_
 rintro _ w6 ⟨cs2, Hd, hsv⟩
 have hnp := Hp.fresh H5
 have hszp := H5.size
 have hpl := bl_place H5
 have HB := (H5.callr [2] rfl Hd).pick [0, 1, 3] (by decide)
 rw [← goes4 hk] at hsv
 obtain ⟨D1, e1, D2, e2, D3, e3, rfl, hw1, hw2, hw3⟩ := hsv
 have H6 := HB.here
 have hnk : ∀ x, up (fun x => ok x ∧ x < w0.heap.size) w5.heap.size x → x ∉ bl _ := fun x hx hb => (show False from by
   rcases hx with hx | hx
   · rcases hpl x hb with h | h
     · exact (hks x hx.1 hx.2).1 h
     · have := hx.2; omega
   · exact hnp x hx hb)
 have hkk : ∀ x, up (fun x => ok x ∧ x < w0.heap.size) w5.heap.size x → x < w6.heap.size → x ∉ bl _ ∧ up ok w0.heap.size x := fun x hx _ => ⟨hnk x hx, by
   rcases hx with hx | hx
   · exact .inl hx.1
   · exact .inr (by omega)⟩
 refine Xr e58<|J1<|Rq<|OV (EN ty57 rfl (vs := [.int .i64 (s.goes n).p.r, .int .i64 (s.goes n).p.n, .slice D1 (s.goes n).votes.length e1, .int .i64 (s.goes n).index, .slice D2 (s.goes n).image.length e2, .slice D3 (s.goes n).entries.length e3]) rfl (H6.cellsR (i := 2) rfl rfl))<|OQ (EC gf36 rfl) (check_p (s.goes n) D1 e1 D2 e2 D3 e3 _ _ hw1 hw2 hw3 (by omega) (by omega)) ?_
 rintro _ w7 ⟨e, rfl, hans, Hd⟩
 have H7 := H6.callN Hd
 refine OT (ex_neq rfl rfl) (fun hp41 => ?_) (fun hp41 => ?_)
 refine Xr e58<|J3 rfl<|Rq<|Xa rfl<|Xr e58<|J5<|FN1 rfl rfl<|⟨(fun b' hb' => by rw [into_no hp9 hs (by cases hc : chk (s.goes n) with | false => rfl | true => exact absurd (hans.1 hc) hp41)] at hb'; cases hb'), fun _ => ⟨rfl, (HB.all H7).noRows⟩⟩
 have hchk : chk (s.goes n) = true := by cases hc : chk (s.goes n) with | true => rfl | false => have := hans.2 hc; omega
 refine Xr e58<|J4 rfl<|J6<|Rq<|Xm rfl<|Xm rfl<|Xc rfl<|Xf fl27_0 rfl<|cOp e58<|OV (EL ty23 rfl (H7.cell (i := 0) rfl rfl))<|OQ (EC gf37 rfl) (cloneS (some a1) b.groups.length k1 pg.flatten _ (hrg.move (by decide) hag (HB.all H7) hks).1 (ones_flatten hong) (by rw [h8]; decide)) ?_
 rintro _ w8 ⟨gv, cv, sv, rfl, hmv, hcv, hgv0, Hc⟩
 have H8 := H7.call0 Hc
 obtain ⟨gw, rfl⟩ := own_some H8 (i := 3) rfl (by rw [List.length_append, hpg.len]; omega)
 refine Xc rfl<|Xf fl27_0 rfl<|cOp e58<|OW ty23 H8 0 rfl rfl rfl rfl (by first | (simp; done) | simp [putAt]) rfl<|fun w9 H9=>Xr e58<|J1<|run_mixZ 8 [(true, 0), (true, 1), (true, 2), (true, 3), (true, 4), (true, 5), (true, 6), (true, 7), (false, 8)] H9 [0, 1, 2, 3] mixed (by decide) (by kernel_rfl) ?_
 rintro w10 hw10
 have H10 := Hp.drew H9; rw [← hw10] at H10
 refine Zm rfl rfl<|Zc rfl rfl<|Zf rfl fl27_0 rfl<|MP rfl<|MV (fun wz hz => EL ty23 rfl (hz.cell (i := 0) rfl rfl))<|cZ e58<|Zf rfl fl45_1 rfl<|MP rfl<|MV (fun wz hz => EL ty3 rfl (hz.cell (i := 1) rfl rfl))<|MP rfl<|MV (fun wz hz => EN ty57 rfl (vs := [.int .i64 (s.goes n).p.r, .int .i64 (s.goes n).p.n, .slice D1 (s.goes n).votes.length e1, .int .i64 (s.goes n).index, .slice D2 (s.goes n).image.length e2, .slice D3 (s.goes n).entries.length e3]) rfl (hz.cellsR (i := 2) rfl rfl))<|MP rfl<|MV (fun wz hz => ex_idxN Tryz.underlying23 ty57 rfl rfl (len := b.groups.length) (i := n.group.toNat) (by omega) (by omega))<|cZ e58<|MO rfl<|OS ty57 H10 3 rfl rfl rfl rfl rfl (by rw [List.length_append, hpg.len]; show 0 + n.group.toNat * 6 + 6 ≤ _; omega) rfl<|fun w11 H11=>?_
 rw [store_elem (sz := 6) (vs := [.int .i64 (s.goes n).p.r, .int .i64 (s.goes n).p.n, .slice D1 (s.goes n).votes.length e1, .int .i64 (s.goes n).index, .slice D2 (s.goes n).image.length e2, .slice D3 (s.goes n).entries.length e3]) hpg (by omega) rfl] at H11
 refine OE ?_
 refine ⟨fun hne => absurd rfl hne, ?_⟩
 refine cZ e58<|ME<|cR e58<|Rq<|Xa rfl<|Xr e58<|J5<|FN1 rfl rfl ?_
 have HW := HB.all H11
 refine ⟨fun b' hb' => ?_, fun h => by rw [into_yes hp9 (by omega) hs hchk] at h; cases h⟩
 rw [into_yes hp9 (by omega) hs hchk] at hb'
 simp only [Option.some.injEq] at hb'
 subst hb'
 refine ⟨rfl, _, HW.pick [0] (by decide), hd (some gw), cv, A2, k2, A3, k3, by rw [List.length_set]; rfl, ?_, hb2.toR HW hks, hb3.toM HW hks⟩
 exact Sl.row HW (i := 3) rfl (hpg.set_len rfl) (by decide) ((h2g.imp (R' := SvR w11 (up ok w0.heap.size)) fun p x h => h.to HW hks).set _ ⟨D1, e1, D2, e2, D3, e3, rfl, hw1.toV H11 hkk, hw2.to H11 hkk, hw3.toE H11 hkk⟩) (fun c hc => row_new (ok := ok) HW (i := 3) rfl (fun c hc => by rw [List.mem_singleton.1 hc]; exact fun e => HW.ne (i := 3) (j := 0) (g := gb) (by rw [e]; rfl) rfl (by decide) rfl) c hc)
end Go.Proofs.YtbninklfoogmdaaGreat
/- Walks of layer 2, printed by wip/gen/codec.py. -/
namespace Go.Proofs.YtbninklfoogmdaaGreat
open Go Go.RowKit
set_option linter.unusedVariables false
attribute [local irreducible] Still Ops Does Cd
theorem none_saved {w : World} {ok : Nat → Prop} : SvR w ok [.int .i64 0, .int .i64 0, .slice none 0 0, .int .i64 0, .slice none 0 0, .slice none 0 0] Sv.none := ⟨none, 0, none, 0, none, 0, rfl, Sl.none _ _ _ _, Bs.none _ _, Sl.none _ _ _ _⟩
set_option maxRecDepth 100000 in
set_option maxHeartbeats 4000000 in
theorem empty_v (w0 : World) : Does Tryz.prog 8 #[] w0 (fun r w' => ∃ cs, r = .agg cs.toArray ∧ BoR w' (fun x => w0.heap.size ≤ x) cs Bo.empty ∧ Hp w0 w' [] []) := by
 refine does_of Tryz.func8 Tryz.ntmps8 rfl<|cR e3 ?_
 have H := Hp.refl w0
 refine Rq<|OA ty27 H<|fun w1 g1 H1 hg1=>Xr e3<|Rq<|ops_makeN Tryz.underlying23 ty57 H1 (n := 8) (c := 8) rfl rfl (Nat.le_refl _) (by decide) (by decide)<|fun w2 ge H2 _=>OV (EB ty27 pl27 rfl rfl)<|OS ty27 H2 0 (vs := [.slice (hd (some ge)) 8 8, .slice none 0 0, .slice none 0 0]) rfl rfl rfl rfl rfl (Nat.le_refl 3) rfl<|fun w3 H3=>Xr e3<|J5<|fin_cell rfl ty27 (cs := [.slice (hd (some ge)) 8 8, .slice none 0 0, .slice none 0 0]) rfl rfl (H3.cellsR (i := 0) rfl rfl) ?_
 have HZ : Hp w0 w3 [] [((some g1, 27, [.slice (hd (some ge)) 8 8, .slice none 0 0, .slice none 0 0]) : Ent), ((some ge, 57, (List.replicate 8 [.int .i64 0, .int .i64 0, .slice none 0 0, .int .i64 0, .slice none 0 0, .slice none 0 0]).flatten ++ []) : Ent)] := by rw [List.append_nil]; exact H3
 refine ⟨_, rfl, ⟨hd (some ge), 8, none, 0, none, 0, rfl, Sl.row HZ (i := 1) rfl (fun p hp => by rw [(List.mem_replicate.1 hp).2]; rfl) (by decide) ?_ (fun b hb => ?_), Sl.none _ _ _ _, Sl.none _ _ _ _⟩, H3.noRows⟩
 exact ⟨none_saved, none_saved, none_saved, none_saved, none_saved, none_saved, none_saved, none_saved, trivial⟩
 rcases HZ.place (i := 1) (g := b) (by cases hb; rfl) with h | h
 cases h
 exact h
set_option maxRecDepth 100000 in
set_option maxHeartbeats 4000000 in
theorem empty_r (w0 : World) : Does Tryz.prog 16 #[] w0 (fun r w' => ∃ cs, r = .agg cs.toArray ∧ BoR w' (fun x => w0.heap.size ≤ x) cs Bo.empty ∧ Hp w0 w' [] []) := by
 refine does_of Tryz.func16 Tryz.ntmps16 rfl<|cR e3 ?_
 have H := Hp.refl w0
 refine Rq<|OA ty27 H<|fun w1 g1 H1 hg1=>Xr e3<|Rq<|ops_makeN Tryz.underlying23 ty57 H1 (n := 8) (c := 8) rfl rfl (Nat.le_refl _) (by decide) (by decide)<|fun w2 ge H2 _=>OV (EB ty27 pl27 rfl rfl)<|OS ty27 H2 0 (vs := [.slice (hd (some ge)) 8 8, .slice none 0 0, .slice none 0 0]) rfl rfl rfl rfl rfl (Nat.le_refl 3) rfl<|fun w3 H3=>Xr e3<|J5<|fin_cell rfl ty27 (cs := [.slice (hd (some ge)) 8 8, .slice none 0 0, .slice none 0 0]) rfl rfl (H3.cellsR (i := 0) rfl rfl) ?_
 have HZ : Hp w0 w3 [] [((some g1, 27, [.slice (hd (some ge)) 8 8, .slice none 0 0, .slice none 0 0]) : Ent), ((some ge, 57, (List.replicate 8 [.int .i64 0, .int .i64 0, .slice none 0 0, .int .i64 0, .slice none 0 0, .slice none 0 0]).flatten ++ []) : Ent)] := by rw [List.append_nil]; exact H3
 refine ⟨_, rfl, ⟨hd (some ge), 8, none, 0, none, 0, rfl, Sl.row HZ (i := 1) rfl (fun p hp => by rw [(List.mem_replicate.1 hp).2]; rfl) (by decide) ?_ (fun b hb => ?_), Sl.none _ _ _ _, Sl.none _ _ _ _⟩, H3.noRows⟩
 exact ⟨none_saved, none_saved, none_saved, none_saved, none_saved, none_saved, none_saved, none_saved, trivial⟩
 rcases HZ.place (i := 1) (g := b) (by cases hb; rfl) with h | h
 cases h
 exact h
set_option maxRecDepth 100000 in
set_option maxHeartbeats 16000000 in
theorem replay_v (A : Option Addr) (k : Nat) (l : List Nt) (okl : Nat → Prop) (w0 : World) (hl : Sl (NtR w0 okl) 16 w0 okl A l) (hn : l.length ≤ 840000000000) : Does Tryz.prog 6 #[.slice A l.length k] w0 (fun r w' => ∃ cs e b, r = .tuple #[.agg cs.toArray, .int .i64 e] ∧ BoR w' (fun x => w0.heap.size ≤ x) cs b ∧ Rep l b e ∧ Hp w0 w' [] []) := by
 refine does_of Tryz.func6 Tryz.ntmps6 rfl<|cR e20 ?_
 have H := Hp.refl w0
 obtain ⟨ps, hp, hr, ha, h2⟩ := id hl
 have hlen := h2.len
 refine Rq<|OA ty27 H<|fun w1 gr H1 hgr=>Xa rfl<|Xr e20<|Rq ?_
 have hnbr := Hp.fresh H1
 have hszr := H1.size
 refine OQ (EC gf8 rfl) (empty_v _) ?_
 rintro _ w2 ⟨cse, rfl, hbe, Hd⟩
 have H2 := H1.callN Hd
 have hcl : ∃ a b c d e f, cse = [.slice a 8 b, .slice c 0 d, .slice e 0 f] := by
   obtain ⟨_, _, _, _, _, _, rfl, _⟩ := hbe
   exact ⟨_, _, _, _, _, _, rfl⟩
 obtain ⟨z1, y1, z2, y2, z3, y3, rfl⟩ := hcl
 have HB0 := H2
 have HL0 := HB0.here
 refine OA ty27 HL0<|fun w3 gb H3 hgb=>OS ty27 H3 1 rfl rfl rfl rfl rfl (by first | decide | (simp; done) | simp [putAt]) rfl<|fun w4 H4=>Xr e20<|J1<|Rq<|Xm rfl<|OV (ES Tryz.underlying22 rfl)<|Xm rfl<|Xr e20<|J7<|run_loop (fun nQ lQ w => ∃ (i : Nat) (y : Int) (b : Bo) (cs : List Value), l.length - i = nQ ∧ Fits [none, none, some (.pointer (some ⟨gr, 0, none⟩)), none, some (.pointer (some ⟨gb, 0, none⟩)), none, none, none, some (.slice A l.length k), some (.int .i64 (l.length : Int)), some (.int .i64 y), none, none, none, none, none, none, none, none, none] lQ ∧ y = (i : Int) ∧ i ≤ l.length ∧ repl Bo.empty (l.take i) = some b ∧ Good b i ∧ BoR w (fun x => w0.heap.size ≤ x ∧ x ≠ gr ∧ x ≠ gb) cs b ∧ Hp w0 w [] [((some gr, 27, [.slice none 0 0, .slice none 0 0, .slice none 0 0]) : Ent), (some gb, 27, cs)]) (l.length) ?_ ?_
 exact ⟨0, _, Bo.empty, _, rfl, (fn (fn (fs (fn (fs (fn (fn (fn (fs (fs (fs (fn (fn (fn (fn (fn (fn (fn (fn (fn f0)))))))))))))))))))), rfl, Nat.zero_le _, rfl, Good.empty, hbe.to H4 (fun x hx hl => ⟨hnbr x hx, by omega, fun e => by subst e; have h1 := H4.lt (i := 0) rfl; have h2 := hnbr _ hx; exact h2 (by simp [bl]), by omega⟩), (HB0.all H4).pick [0, 1] (by decide)⟩
 rintro nQ lQ w5 ⟨i, y, b, cs, rfl, hfit, rfl, hi, hrep, hgood, hbor, H5⟩
 obtain ⟨j, rfl⟩ := hfit.open
 refine cR e20 ?_
 clear hfit
 have HB := H5
 replace H5 := HB.here
 obtain ⟨X1, x1, X2, x2, X3, x3, rfl, hx1, hx2, hx3⟩ := hbor
 refine Rq<|OT (ex_lss rfl rfl) (fun hp11 => ?_) (fun hp11 => ?_)
 have hil : i < l.length := by omega
 obtain ⟨nt, hx⟩ := get_of hil
 obtain ⟨p1, hp1, hR⟩ := h2.get hx
 obtain ⟨B1, j1, B2, j2, rfl, hbv, hbe2⟩ := hR
 obtain ⟨a1, ha1⟩ := hr.some_ (by omega)
 subst ha1
 refine Xr e20<|J1<|J3 rfl<|J6<|J1<|J7<|Rq<|OV (EI Tryz.underlying22 ty45 rfl rfl rfl hil rfl)<|OV (EN ty45 rfl (vs := [.int .i64 nt.kind, .int .i64 nt.group, .int .i64 nt.b.r, .int .i64 nt.b.n, .int .i64 nt.vote.slot, .int .i64 nt.vote.b.r, .int .i64 nt.vote.b.n, .slice B1 nt.vote.val.length j1, .int .i64 nt.entry.slot, .slice B2 nt.entry.val.length j2, .int .i64 nt.right.g, strV nt.right.key, .int .i64 nt.right.lease, .int .i64 nt.right.net, .int .i64 nt.client, .int .i64 nt.seq]) rfl ((hr.to0 (HB.all H5)).elem hp hp1))<|OA ty45 H5<|fun w6 g6 H6 hg6=>OS ty45 H6 2 rfl rfl rfl rfl rfl (by first | decide | (simp; done) | simp [putAt]) rfl<|fun w7 H7=>Xr e20<|Rq<|OV (EN ty45 rfl (vs := [.int .i64 nt.kind, .int .i64 nt.group, .int .i64 nt.b.r, .int .i64 nt.b.n, .int .i64 nt.vote.slot, .int .i64 nt.vote.b.r, .int .i64 nt.vote.b.n, .slice B1 nt.vote.val.length j1, .int .i64 nt.entry.slot, .slice B2 nt.entry.val.length j2, .int .i64 nt.right.g, strV nt.right.key, .int .i64 nt.right.lease, .int .i64 nt.right.net, .int .i64 nt.client, .int .i64 nt.seq]) rfl (H7.cellsR (i := 2) rfl rfl)) ?_
 have HP := H7
 have hkb : ∀ x, (fun x => w0.heap.size ≤ x ∧ x ≠ gr ∧ x ≠ gb) x → x ∉ bl [((some gr, 0, []) : Ent), (some gb, 0, [])] ∧ (fun x => w0.heap.size ≤ x ∧ x ≠ gr ∧ x ≠ gb) x := fun x hx => ⟨fun hb => by
   have : x = gr ∨ x = gb := by simpa [bl] using hb
   rcases this with h | h
   · exact hx.2.1 h
   · exact hx.2.2 h, hx⟩
 have hkl : ∀ x, okl x → x < w0.heap.size → x ∉ ([] : List Nat) ∧ (okl x ∧ x < w0.heap.size) := fun x hx hl => ⟨by simp, hx, hl⟩
 have hgr0 := HB.place (i := 0) rfl
 have hgb0 := HB.place (i := 1) rfl
 have hnp := Hp.fresh H7
 have hszp := (HB.all H7).size
 refine OQ (EC gf19 rfl) (goes_v gb b X1 x1 X2 x2 X3 x3 nt B1 j1 B2 j2 (fun x => okl x ∧ x < w0.heap.size) i _ (H7.at (i := 1) rfl) (fun x => w0.heap.size ≤ x ∧ x ≠ gr ∧ x ≠ gb) (fun hh => hh.2.2 rfl) (hx1.toS H7 fun x hx _ => hkb x hx) (hx2.toR H7 fun x hx _ => hkb x hx) (hx3.toM H7 fun x hx _ => hkb x hx) (fun hh => by rcases hgb0 with h | h; cases h; have := hh.2; omega) (hbv.to (HB.all H7) hkl) (hbe2.to (HB.all H7) hkl) hgood (by omega)) ?_
 rintro r w8 ⟨hyes, hno⟩
 have htk := repl_take hrep hx
 cases hin : b.into nt
 obtain ⟨rfl, Hd⟩ := hno hin
 have HN9 := (HP.callr [1] rfl Hd).pick [0] (by decide)
 refine Xn rfl<|Xr e20<|J3 rfl<|Rq<|OV (EB ty27 pl27 rfl rfl)<|OS ty27 HN9 0 rfl rfl rfl rfl rfl (by decide) rfl<|fun w9 H9=>Xa rfl<|Xr e20<|J5<|BR<|rnd_ret<|BR<|fin_cell_tmp rfl ty27 (cs := [.slice none 0 0, .slice none 0 0, .slice none 0 0]) rfl rfl rfl (H9.cellsR (i := 0) rfl rfl)<|⟨_, _, Bo.zero, rfl, BoR.zero _ _, .inr ⟨repl_none (htk.trans hin), rfl, rfl⟩, (HB.all H9).noRows⟩
 obtain ⟨rfl, cs', Hd, hB'⟩ := hyes _ hin
 have HN9 := (HP.callr [1] rfl Hd).pick [0, 3] (by decide)
 refine Xn rfl<|Xr e20<|J4 rfl<|J6<|run_nil (blk_normal ?_)
 refine J2<|OV (ex_add rfl rfl (IntWalk.i64_in _ (by omega)))<|Xm rfl<|Xr e20<|run_nil (rnd_normal ?_)
 refine ⟨l.length - (i + 1), by omega, i + 1, _, _, cs', rfl, (fn (fn (fs (fn (fs (fn (fn (fn (fs (fs (fs (fn (fn (fn (fn (fn (fn (fn (fn (fn f0)))))))))))))))))))), by omega, by omega, htk.trans hin, hgood.into hin, hB'.to (Hp.refl _) (fun x hx hl => ⟨by simp, ?_⟩), (HB.all HN9).pick [0, 1] (by decide)⟩
 rcases hx with hx | hx
 exact hx
 exact ⟨by omega, fun e => by subst e; have := HP.lt (i := 0) rfl; omega, fun e => by subst e; have := HP.lt (i := 1) rfl; omega⟩
 obtain rfl : i = l.length := by omega
 refine Xr e20<|J1<|J4 rfl<|J8<|rnd_exit<|blk_exit<|Rq<|OV (EN ty27 rfl (vs := [.slice X1 b.groups.length x1, .slice X2 b.rights.length x2, .slice X3 b.last.length x3]) rfl (H5.cellsR (i := 1) rfl rfl))<|OS ty27 H5 0 rfl rfl rfl rfl rfl (Nat.le_refl 3) rfl<|fun w6 H6=>Xa rfl<|Xr e20<|J5<|fin_cell_tmp rfl ty27 (cs := [.slice X1 b.groups.length x1, .slice X2 b.rights.length x2, .slice X3 b.last.length x3]) rfl rfl rfl (H6.cellsR (i := 0) rfl rfl) ?_
 rw [List.take_length] at hrep
 refine ⟨_, _, b, rfl, BoR.to (ok := (fun x => w0.heap.size ≤ x ∧ x ≠ gr ∧ x ≠ gb)) ⟨X1, x1, X2, x2, X3, x3, rfl, hx1, hx2, hx3⟩ H6 (fun x hx hl => ⟨fun hb => ?_, hx.1⟩), .inl ⟨hrep, rfl, hgood⟩, (HB.all H6).noRows⟩
 have : x = gr ∨ x = gb := by simpa [bl] using hb
 rcases this with h | h
 exact hx.2.1 h
 exact hx.2.2 h
end Go.Proofs.YtbninklfoogmdaaGreat
/- Walks of layer 2, printed by wip/gen/codec.py. -/
namespace Go.Proofs.YtbninklfoogmdaaGreat
open Go Go.RowKit
set_option linter.unusedVariables false
attribute [local irreducible] Still Ops Does Cd
set_option maxRecDepth 100000 in
set_option maxHeartbeats 32000000 in
theorem replay_r (A : Option Addr) (k : Nat) (l : List Nt) (okl : Nat → Prop) (w0 : World) (hl : Sl (NtR w0 okl) 16 w0 okl A l) (hn : l.length ≤ 840000000000) : Does Tryz.prog 12 #[.slice A l.length k] w0 (fun r w' => ∃ cs e b, r = .tuple #[.agg cs.toArray, .int .i64 e] ∧ BoR w' (up okl w0.heap.size) cs b ∧ Rep l b e ∧ Hp w0 w' [] []) := by
 refine does_of Tryz.func12 Tryz.ntmps12 rfl<|cR e29 ?_
 have H := Hp.refl w0
 obtain ⟨ps, hp, hr, ha, h2⟩ := id hl
 have hlen := h2.len
 refine Rq<|OA ty27 H<|fun w1 gr H1 hgr=>Xa rfl<|Xr e29<|Rq ?_
 have hnbr := Hp.fresh H1
 have hszr := H1.size
 refine OQ (EC gf16 rfl) (empty_r _) ?_
 rintro _ w2 ⟨cse, rfl, hbe, Hd⟩
 have H2 := H1.callN Hd
 have hcl : ∃ a b c d e f, cse = [.slice a 8 b, .slice c 0 d, .slice e 0 f] := by
   obtain ⟨_, _, _, _, _, _, rfl, _⟩ := hbe
   exact ⟨_, _, _, _, _, _, rfl⟩
 obtain ⟨z1, y1, z2, y2, z3, y3, rfl⟩ := hcl
 have HB0 := H2
 have HL0 := HB0.here
 refine OA ty27 HL0<|fun w3 gb H3 hgb=>OS ty27 H3 1 rfl rfl rfl rfl rfl (by first | decide | (simp; done) | simp [putAt]) rfl<|fun w4 H4=>Xr e29<|J1<|Rq<|Xa rfl<|Xr e29<|J7<|run_loop (fun nQ lQ w => ∃ (i : Nat) (y : Int) (b : Bo) (cs : List Value), l.length - i = nQ ∧ Fits [some (.slice A l.length k), none, some (.pointer (some ⟨gr, 0, none⟩)), none, some (.pointer (some ⟨gb, 0, none⟩)), some (.int .i64 y), none, none, none, none, none, none, none, none, none, none, none, none, none, none, none, none, none, none, none, none, none, none, none] lQ ∧ y = (i : Int) ∧ i ≤ l.length ∧ repl Bo.empty (l.take i) = some b ∧ Good b i ∧ BoR w (fun x => (okl x ∧ x < w0.heap.size ∨ w0.heap.size ≤ x) ∧ x ≠ gr ∧ x ≠ gb) cs b ∧ Hp w0 w [] [((some gr, 27, [.slice none 0 0, .slice none 0 0, .slice none 0 0]) : Ent), (some gb, 27, cs)]) (l.length) ?_ ?_
 exact ⟨0, _, Bo.empty, _, rfl, (fs (fn (fs (fn (fs (fs (fn (fn (fn (fn (fn (fn (fn (fn (fn (fn (fn (fn (fn (fn (fn (fn (fn (fn (fn (fn (fn (fn (fn f0))))))))))))))))))))))))))))), rfl, Nat.zero_le _, rfl, Good.empty, hbe.to H4 (fun x hx hl => ⟨hnbr x hx, .inr (by omega), fun e => by subst e; have h1 := H4.lt (i := 0) rfl; have h2 := hnbr _ hx; exact h2 (by simp [bl]), by omega⟩), (HB0.all H4).pick [0, 1] (by decide)⟩
 rintro nQ lQ w5 ⟨i, y, b, cs, rfl, hfit, rfl, hi, hrep, hgood, hbor, H5⟩
 obtain ⟨j, rfl⟩ := hfit.open
 refine cR e29 ?_
 clear hfit
 have HB := H5
 replace H5 := HB.here
 obtain ⟨X1, x1, X2, x2, X3, x3, rfl, hx1, hx2, hx3⟩ := hbor
 have hgr0 : w0.heap.size ≤ gr := by
   rcases HB.place (i := 0) (g := gr) rfl with h | h
   · cases h
   · exact h
 have hgb0 : w0.heap.size ≤ gb := by
   rcases HB.place (i := 1) (g := gb) rfl with h | h
   · cases h
   · exact h
 have hszB := HB.size
 have hgr1 := HB.lt (i := 0) rfl
 have hgb1 := HB.lt (i := 1) rfl
 obtain ⟨wl, hwl⟩ : ∃ n, n = w5.heap.size := ⟨_, rfl⟩
 refine J1<|Rq<|Xm rfl<|Xm rfl<|OV (ES Tryz.underlying22 rfl)<|OT (ex_lss rfl rfl) (fun hp12 => ?_) (fun hp12 => ?_)
 have hil : i < l.length := by omega
 obtain ⟨nt, hx⟩ := get_of hil
 obtain ⟨p1, hp1, hR⟩ := h2.get hx
 obtain ⟨B1, j1, B2, j2, rfl, hbv, hbe2⟩ := hR
 obtain ⟨a1, ha1⟩ := hr.some_ (by omega)
 subst ha1
 have htk := repl_take hrep hx
 refine Xr e29<|J3 rfl<|J6<|J1<|J7<|J1<|run_mixT 11 (.p 0 (.p 1 (.p 2 (.p 3 (.p 4 (.two 5 (.p 6 (.p 7 (.p 8 (.o 9 (.o 10 (.o 11 .nil)))))) 9 (.o 5 (.p 6 (.p 7 (.p 8 (.o 10 (.o 11 .nil)))))))))))) H5 [0, 1] mixed (by decide) (by kernel_rfl) ?_
 rintro w6 hw6
 have H6 := Hp.drew H5; rw [← hw6] at H6
 refine TP rfl<|MV (fun wz hz => EN ty27 rfl (vs := [.slice X1 b.groups.length x1, .slice X2 b.rights.length x2, .slice X3 b.last.length x3]) rfl (hz.cellsR (i := 1) rfl rfl))<|Tm rfl rfl<|Tm rfl rfl<|TP rfl<|MV (fun wz hz => EI Tryz.underlying22 ty45 rfl rfl (len := l.length) (i := i) (by omega) (by omega) rfl)<|cT e29<|TP rfl<|MV (fun wz hz => EN ty45 rfl (vs := [.int .i64 nt.kind, .int .i64 nt.group, .int .i64 nt.b.r, .int .i64 nt.b.n, .int .i64 nt.vote.slot, .int .i64 nt.vote.b.r, .int .i64 nt.vote.b.n, .slice B1 nt.vote.val.length j1, .int .i64 nt.entry.slot, .slice B2 nt.entry.val.length j2, .int .i64 nt.right.g, strV nt.right.key, .int .i64 nt.right.lease, .int .i64 nt.right.net, .int .i64 nt.client, .int .i64 nt.seq]) rfl ((hr.to0 (HB.all hz)).elem hp hp1))<|mixt_two ?_ ?_
 refine TQ rfl ?_
 have hszi := H6.size
 have hnp := Hp.fresh H6
 have hkb : ∀ x, (fun x => (okl x ∧ x < w0.heap.size ∨ w0.heap.size ≤ x) ∧ x ≠ gr ∧ x ≠ gb) x → x < wl → x ∉ bl [((some gr, 0, []) : Ent), (some gb, 0, [])] ∧ (fun x => (fun x => (okl x ∧ x < w0.heap.size ∨ w0.heap.size ≤ x) ∧ x ≠ gr ∧ x ≠ gb) x ∧ x ≠ gr) x := fun x hx hl => ⟨fun hb => by
   have : x = gr ∨ x = gb := by simpa [bl] using hb
   rcases this with h | h
   · exact hx.2.1 h
   · exact hx.2.2 h, hx, hx.2.1⟩
 have hkl : ∀ x, okl x → x < w0.heap.size → x ∉ ([] : List Nat) ∧ (fun x => (fun x => (okl x ∧ x < w0.heap.size ∨ w0.heap.size ≤ x) ∧ x ≠ gr ∧ x ≠ gb) x ∧ x ≠ gr) x := fun x hx hl => ⟨by simp, ⟨.inl ⟨hx, hl⟩, by omega, by omega⟩, by omega⟩
 refine OQ (EC gf9 rfl) (into_r b X1 x1 X2 x2 X3 x3 nt B1 j1 B2 j2 (fun x => (fun x => (okl x ∧ x < w0.heap.size ∨ w0.heap.size ≤ x) ∧ x ≠ gr ∧ x ≠ gb) x ∧ x ≠ gr) i _ (hx1.toS H6 fun x hx hl => hkb x hx (by omega)) (hx2.toR H6 fun x hx hl => hkb x hx (by omega)) (hx3.toM H6 fun x hx hl => hkb x hx (by omega)) (hbv.to (HB.all H6) hkl) (hbe2.to (HB.all H6) hkl) hgood (by omega)) ?_
 rintro _ w7 ⟨Y1, m1, y1, Y2, m2, y2, Y3, m3, y3, fl, rfl, hyes, hno, Hd⟩
 have HG := H6.callN Hd
 have HL := HG.here
 have H7 := HG
 have hszw := Hd.size
 have hreg : ∀ x, up (fun x => (fun x => (okl x ∧ x < w0.heap.size ∨ w0.heap.size ≤ x) ∧ x ≠ gr ∧ x ≠ gb) x ∧ x ≠ gr) w6.heap.size x → x ∉ bl [((some gr, 0, []) : Ent), ((some gb, 0, []) : Ent)] := fun x hx hb => (show False from by
   rcases hx with hx | hx
   · have h1 := hx.1.2.1; have h2 := hx.1.2.2; have h3 := hx.2; have : x = gr ∨ x = gb := by simpa [bl] using hb
     omega
   · exact hnp x hx hb)
 have hreg2 : ∀ x, up (fun x => (fun x => (okl x ∧ x < w0.heap.size ∨ w0.heap.size ≤ x) ∧ x ≠ gr ∧ x ≠ gb) x ∧ x ≠ gr) w6.heap.size x → (fun x => (okl x ∧ x < w0.heap.size ∨ w0.heap.size ≤ x) ∧ x ≠ gr ∧ x ≠ gb) x := fun x hx => by
   rcases hx with hx | hx
   · exact hx.1
   · exact ⟨.inr (by omega), by omega, by omega⟩
 cases hin : b.into nt
 obtain rfl := hno hin
 refine OE ?_
 refine ⟨fun hne => H7.pick [0, 1] (by decide), ?_⟩
 refine Tm rfl rfl<|TP rfl<|MV (fun wz hz => ex_extract rfl rfl)<|TP rfl<|MV (fun wz hz => ex_extract rfl rfl)<|cT e29<|TQ rfl<|OA ty27 HL<|fun w8 g6 HL2 _=>have H8:=HG.all HL2;OE<|⟨fun hne => H8.pick [0, 1] (by decide), ?_⟩
 refine cT e29<|TQ rfl<|OS ty27 HL2 2 (vs := [.slice Y1 m1 y1, .slice Y2 m2 y2, .slice Y3 m3 y3]) rfl rfl rfl rfl rfl (Nat.le_refl 3) rfl<|fun w9 HL3=>have H9:=HG.all HL3;OE<|⟨fun hne => H9.pick [0, 1] (by decide), ?_⟩
 refine cT e29<|TQ rfl<|Xa rfl ?_
 replace H9 := HL3
 refine OE ?_
 refine ⟨fun hne => absurd rfl hne, ?_⟩
 refine cT e29<|mixt_nil<|cR e29<|J1<|Rq<|Xm rfl<|Xn rfl<|Xr e29<|J3 rfl<|Rq<|OV (EB ty27 pl27 rfl rfl)<|OS ty27 H9 0 (vs := [.slice none 0 0, .slice none 0 0, .slice none 0 0]) rfl rfl rfl rfl rfl (Nat.le_refl 3) rfl<|fun w10 H10=>Xa rfl<|Xr e29<|J5<|BR<|rnd_ret<|BR<|fin_cell_tmp rfl ty27 (cs := [.slice none 0 0, .slice none 0 0, .slice none 0 0]) rfl rfl rfl (H10.cellsR (i := 0) rfl rfl)<|⟨_, _, Bo.zero, rfl, BoR.zero _ _, .inr ⟨repl_none (htk.trans hin), rfl, rfl⟩, (HB.all (HG.all H10)).noRows⟩
 rename_i bn
 obtain ⟨rfl, hB'⟩ := hyes bn hin
 refine OE ?_
 refine ⟨fun hne => H7.pick [0, 1] (by decide), ?_⟩
 refine Tm rfl rfl<|TP rfl<|MV (fun wz hz => ex_extract rfl rfl)<|TP rfl<|MV (fun wz hz => ex_extract rfl rfl)<|cT e29<|TQ rfl<|OA ty27 HL<|fun w8 g6 HL2 _=>have H8:=HG.all HL2;OE<|⟨fun hne => H8.pick [0, 1] (by decide), ?_⟩
 refine cT e29<|TQ rfl<|OS ty27 HL2 2 (vs := [.slice Y1 m1 y1, .slice Y2 m2 y2, .slice Y3 m3 y3]) rfl rfl rfl rfl rfl (Nat.le_refl 3) rfl<|fun w9 HL3=>have H9:=HG.all HL3;OE<|⟨fun hne => H9.pick [0, 1] (by decide), ?_⟩
 refine cT e29<|TQ rfl<|Xa rfl ?_
 replace H9 := HL3
 refine OE ?_
 refine ⟨fun hne => absurd rfl hne, ?_⟩
 refine cT e29<|mixt_nil<|cR e29<|J1<|Rq<|Xm rfl<|Xn rfl<|Xr e29<|J4 rfl<|J6<|J2<|OV (EN ty27 rfl (vs := [.slice Y1 m1 y1, .slice Y2 m2 y2, .slice Y3 m3 y3]) rfl (H9.cellsR (i := 2) rfl rfl))<|OS ty27 H9 1 (vs := [.slice Y1 m1 y1, .slice Y2 m2 y2, .slice Y3 m3 y3]) rfl rfl rfl rfl rfl (Nat.le_refl 3) rfl<|fun w10 H10=>Xr e29<|run_nil (blk_normal ?_)
 refine J2<|Xm rfl<|OV (ex_add rfl rfl (IntWalk.i64_in _ (by omega)))<|Xa rfl<|Xr e29<|run_nil (rnd_normal ?_)
 exact ⟨l.length - (i + 1), by omega, i + 1, _, bn, [.slice Y1 m1 y1, .slice Y2 m2 y2, .slice Y3 m3 y3], rfl, (fs (fn (fs (fn (fs (fs (fn (fn (fn (fn (fn (fn (fn (fn (fn (fn (fn (fn (fn (fn (fn (fn (fn (fn (fn (fn (fn (fn (fn f0))))))))))))))))))))))))))))), by omega, by omega, htk.trans hin, hgood.into hin, hB'.to H10 (fun x hx _ => ⟨hreg x hx, hreg2 x hx⟩), (HB.all (HG.all H10)).pick [0, 1] (by decide)⟩
 refine TQ rfl ?_
 have hszd := H6.size
 refine OA ty27 H6<|fun w7 g6 H7 hg6=>OE<|⟨fun hne => H7.pick [0, 1] (by decide), ?_⟩
 refine cT e29<|TQ rfl ?_
 have hszi := H7.size
 have hnp := Hp.fresh H7
 have hkb : ∀ x, (fun x => (okl x ∧ x < w0.heap.size ∨ w0.heap.size ≤ x) ∧ x ≠ gr ∧ x ≠ gb) x → x < wl → x ∉ bl [((some gr, 0, []) : Ent), (some gb, 0, [])] ∧ (fun x => (fun x => (okl x ∧ x < w0.heap.size ∨ w0.heap.size ≤ x) ∧ x ≠ gr ∧ x ≠ gb) x ∧ x ≠ g6) x := fun x hx hl => ⟨fun hb => by
   have : x = gr ∨ x = gb := by simpa [bl] using hb
   rcases this with h | h
   · exact hx.2.1 h
   · exact hx.2.2 h, hx, by omega⟩
 have hkl : ∀ x, okl x → x < w0.heap.size → x ∉ ([] : List Nat) ∧ (fun x => (fun x => (okl x ∧ x < w0.heap.size ∨ w0.heap.size ≤ x) ∧ x ≠ gr ∧ x ≠ gb) x ∧ x ≠ g6) x := fun x hx hl => ⟨by simp, ⟨.inl ⟨hx, hl⟩, by omega, by omega⟩, by omega⟩
 refine OQ (EC gf9 rfl) (into_r b X1 x1 X2 x2 X3 x3 nt B1 j1 B2 j2 (fun x => (fun x => (okl x ∧ x < w0.heap.size ∨ w0.heap.size ≤ x) ∧ x ≠ gr ∧ x ≠ gb) x ∧ x ≠ g6) i _ (hx1.toS H7 fun x hx hl => hkb x hx (by omega)) (hx2.toR H7 fun x hx hl => hkb x hx (by omega)) (hx3.toM H7 fun x hx hl => hkb x hx (by omega)) (hbv.to (HB.all H7) hkl) (hbe2.to (HB.all H7) hkl) hgood (by omega)) ?_
 rintro _ w8 ⟨Y1, m1, y1, Y2, m2, y2, Y3, m3, y3, fl, rfl, hyes, hno, Hd⟩
 have HG := H7.callN Hd
 have HL := HG.here
 have H8 := HG
 have hszw := Hd.size
 have hreg : ∀ x, up (fun x => (fun x => (okl x ∧ x < w0.heap.size ∨ w0.heap.size ≤ x) ∧ x ≠ gr ∧ x ≠ gb) x ∧ x ≠ g6) w7.heap.size x → x ∉ bl [((some gr, 0, []) : Ent), ((some gb, 0, []) : Ent), ((some g6, 0, []) : Ent)] := fun x hx hb => (show False from by
   rcases hx with hx | hx
   · have h1 := hx.1.2.1; have h2 := hx.1.2.2; have h3 := hx.2; have : x = gr ∨ x = gb ∨ x = g6 := by simpa [bl] using hb
     omega
   · exact hnp x hx hb)
 have hreg2 : ∀ x, up (fun x => (fun x => (okl x ∧ x < w0.heap.size ∨ w0.heap.size ≤ x) ∧ x ≠ gr ∧ x ≠ gb) x ∧ x ≠ g6) w7.heap.size x → (fun x => (okl x ∧ x < w0.heap.size ∨ w0.heap.size ≤ x) ∧ x ≠ gr ∧ x ≠ gb) x := fun x hx => by
   rcases hx with hx | hx
   · exact hx.1
   · exact ⟨.inr (by omega), by omega, by omega⟩
 cases hin : b.into nt
 obtain rfl := hno hin
 refine OE ?_
 refine ⟨fun hne => H8.pick [0, 1] (by decide), ?_⟩
 refine Tm rfl rfl<|TP rfl<|MV (fun wz hz => ex_extract rfl rfl)<|TP rfl<|MV (fun wz hz => ex_extract rfl rfl)<|TQ rfl<|OS ty27 HL 2 (vs := [.slice Y1 m1 y1, .slice Y2 m2 y2, .slice Y3 m3 y3]) rfl rfl rfl rfl rfl (Nat.le_refl 3) rfl<|fun w9 HL3=>have H9:=HG.all HL3;OE<|⟨fun hne => H9.pick [0, 1] (by decide), ?_⟩
 refine cT e29<|TQ rfl<|Xa rfl ?_
 replace H9 := HL3
 refine OE ?_
 refine ⟨fun hne => absurd rfl hne, ?_⟩
 refine cT e29<|mixt_nil<|cR e29<|J1<|Rq<|Xm rfl<|Xn rfl<|Xr e29<|J3 rfl<|Rq<|OV (EB ty27 pl27 rfl rfl)<|OS ty27 H9 0 (vs := [.slice none 0 0, .slice none 0 0, .slice none 0 0]) rfl rfl rfl rfl rfl (Nat.le_refl 3) rfl<|fun w10 H10=>Xa rfl<|Xr e29<|J5<|BR<|rnd_ret<|BR<|fin_cell_tmp rfl ty27 (cs := [.slice none 0 0, .slice none 0 0, .slice none 0 0]) rfl rfl rfl (H10.cellsR (i := 0) rfl rfl)<|⟨_, _, Bo.zero, rfl, BoR.zero _ _, .inr ⟨repl_none (htk.trans hin), rfl, rfl⟩, (HB.all (HG.all H10)).noRows⟩
 rename_i bn
 obtain ⟨rfl, hB'⟩ := hyes bn hin
 refine OE ?_
 refine ⟨fun hne => H8.pick [0, 1] (by decide), ?_⟩
 refine Tm rfl rfl<|TP rfl<|MV (fun wz hz => ex_extract rfl rfl)<|TP rfl<|MV (fun wz hz => ex_extract rfl rfl)<|TQ rfl<|OS ty27 HL 2 (vs := [.slice Y1 m1 y1, .slice Y2 m2 y2, .slice Y3 m3 y3]) rfl rfl rfl rfl rfl (Nat.le_refl 3) rfl<|fun w9 HL3=>have H9:=HG.all HL3;OE<|⟨fun hne => H9.pick [0, 1] (by decide), ?_⟩
 refine cT e29<|TQ rfl<|Xa rfl ?_
 replace H9 := HL3
 refine OE ?_
 refine ⟨fun hne => absurd rfl hne, ?_⟩
 refine cT e29<|mixt_nil<|cR e29<|J1<|Rq<|Xm rfl<|Xn rfl<|Xr e29<|J4 rfl<|J6<|J2<|OV (EN ty27 rfl (vs := [.slice Y1 m1 y1, .slice Y2 m2 y2, .slice Y3 m3 y3]) rfl (H9.cellsR (i := 2) rfl rfl))<|OS ty27 H9 1 (vs := [.slice Y1 m1 y1, .slice Y2 m2 y2, .slice Y3 m3 y3]) rfl rfl rfl rfl rfl (Nat.le_refl 3) rfl<|fun w10 H10=>Xr e29<|run_nil (blk_normal ?_)
 refine J2<|Xm rfl<|OV (ex_add rfl rfl (IntWalk.i64_in _ (by omega)))<|Xa rfl<|Xr e29<|run_nil (rnd_normal ?_)
 exact ⟨l.length - (i + 1), by omega, i + 1, _, bn, [.slice Y1 m1 y1, .slice Y2 m2 y2, .slice Y3 m3 y3], rfl, (fs (fn (fs (fn (fs (fs (fn (fn (fn (fn (fn (fn (fn (fn (fn (fn (fn (fn (fn (fn (fn (fn (fn (fn (fn (fn (fn (fn (fn f0))))))))))))))))))))))))))))), by omega, by omega, htk.trans hin, hgood.into hin, hB'.to H10 (fun x hx _ => ⟨hreg x hx, hreg2 x hx⟩), (HB.all (HG.all H10)).pick [0, 1] (by decide)⟩
 obtain rfl : i = l.length := by omega
 refine Xr e29<|J4 rfl<|J8<|rnd_exit<|blk_exit<|Rq<|OV (EN ty27 rfl (vs := [.slice X1 b.groups.length x1, .slice X2 b.rights.length x2, .slice X3 b.last.length x3]) rfl (H5.cellsR (i := 1) rfl rfl))<|OS ty27 H5 0 (vs := [.slice X1 b.groups.length x1, .slice X2 b.rights.length x2, .slice X3 b.last.length x3]) rfl rfl rfl rfl rfl (Nat.le_refl 3) rfl<|fun w6 H6=>Xa rfl<|Xr e29<|J5<|fin_cell_tmp rfl ty27 (cs := [.slice X1 b.groups.length x1, .slice X2 b.rights.length x2, .slice X3 b.last.length x3]) rfl rfl rfl (H6.cellsR (i := 0) rfl rfl) ?_
 rw [List.take_length] at hrep
 refine ⟨_, _, b, rfl, BoR.to (ok := (fun x => (okl x ∧ x < w0.heap.size ∨ w0.heap.size ≤ x) ∧ x ≠ gr ∧ x ≠ gb)) ⟨X1, x1, X2, x2, X3, x3, rfl, hx1, hx2, hx3⟩ H6 (fun x hx hl => ⟨fun hb => ?_, hx.1.imp (fun h => h.1) id⟩), .inl ⟨hrep, rfl, hgood⟩, (HB.all H6).noRows⟩
 have : x = gr ∨ x = gb := by simpa [bl] using hb
 rcases this with h | h
 exact hx.2.1 h
 exact hx.2.2 h
end Go.Proofs.YtbninklfoogmdaaGreat
/- Walks of layer 2, printed by wip/gen/codec.py. -/
namespace Go.Proofs.YtbninklfoogmdaaGreat
open Go Go.RowKit
set_option linter.unusedVariables false
attribute [local irreducible] Still Ops Does Cd
set_option maxRecDepth 100000 in
set_option maxHeartbeats 4000000 in
theorem awake_v (w0 : World) : Does Tryz.prog 7 #[] w0 (fun r w' => r = .bool (decide (True)) ∧ Hp w0 w' [] []) := by
 refine does_of Tryz.func7 Tryz.ntmps7 rfl<|cR e27 ?_
 have H := Hp.refl w0
 refine Rq<|Xa rfl<|Xr e27<|Rq<|OV (EB ty36 pl36 rfl rfl)<|OV (EB ty45 pl45 rfl rfl)<|ops_buildSlice Tryz.underlying22 ty45 H (cs := [.int .i64 1, .int .i64 1, .int .i64 2, .int .i64 1, .int .i64 0, .int .i64 0, .int .i64 0, .slice none 0 0, .int .i64 0, .slice none 0 0, .int .i64 0, .string ⟨#[]⟩, .int .i64 0, .int .i64 0, .int .i64 0, .int .i64 0]) rfl (by decide) rfl<|fun w1 g1 H1 hg1=>?_
 have hl := Sl.row (R := NtR w1 (fun _ => True)) (xs := [awN]) (ok := fun _ => True) H1 (i := 0) (sp := []) (ps := [[.int .i64 1, .int .i64 1, .int .i64 2, .int .i64 1, .int .i64 0, .int .i64 0, .int .i64 0, .slice none 0 0, .int .i64 0, .slice none 0 0, .int .i64 0, .string ⟨#[]⟩, .int .i64 0, .int .i64 0, .int .i64 0, .int .i64 0]]) rfl (Pl.one rfl) (by decide) (All2.one ⟨none, 0, none, 0, rfl, Bs.none _ _, Bs.none _ _⟩) (fun _ _ => trivial)
 refine OQ (EC gf6 rfl) (replay_v _ 1 [awN] _ _ hl (by decide)) ?_
 rintro _ w2 ⟨cs, e, b9, rfl, hbo, hrep, Hd⟩
 obtain ⟨hb9, rfl⟩ : b9 = awB ∧ e = 0 := by
   rcases hrep with ⟨h1, h2, _⟩ | ⟨h1, _⟩
   · rw [awB_eq] at h1; cases h1; exact ⟨rfl, h2⟩
   · rw [awB_eq] at h1; cases h1
 subst hb9
 obtain ⟨A1, k1, A2, k2, A3, k3, rfl, hv1, hv2, hv3⟩ := hbo
 have H2 := H1.callN Hd
 obtain ⟨ps, hp, hr, ha, h2⟩ := id hv1
 obtain ⟨a1, ha1⟩ := hr.some_ (by decide)
 subst ha1
 obtain ⟨p1, hp1, hR⟩ := h2.get (i := 1) (b := awS) rfl
 obtain ⟨C1, q1, C2, q2, C3, q3, rfl, _, _, _⟩ := hR
 have HR := H2.noRows
 replace H2 := HR.here
 refine cOp e27<|Xm rfl<|Xe rfl rfl<|Xe rfl rfl<|OA ty27 H2<|fun w3 g3 H3 hg3=>cOp e27<|OS ty27 H3 0 rfl rfl rfl rfl rfl (by first | decide | (simp; done) | simp [putAt]) rfl<|fun w4 H4=>Xa rfl<|Xr e27<|Rq<|Xm rfl<|OT1 (ex_eql rfl rfl) (rfl)<|Xm rfl<|cOp e27<|OY rfl<|Xf fl27_0 rfl<|OY rfl<|OV (EL ty23 rfl (H4.cell (i := 0) rfl rfl))<|cOp e27<|OY rfl<|OV (ES Tryz.underlying23 rfl)<|OY rfl<|OT1 (ex_eql rfl rfl) (rfl)<|Xt rfl rfl<|Xm rfl<|cOp e27<|OY rfl<|Xf fl27_0 rfl<|OY rfl<|OV (EL ty23 rfl (H4.cell (i := 0) rfl rfl))<|cOp e27<|OY rfl<|OV (EI Tryz.underlying23 ty57 rfl rfl (len := 8) (i := 1) rfl (by decide) rfl)<|OY rfl<|OV (ex_fieldAddrA fl57_0 rfl)<|cOp e27 ?_
 refine OY rfl<|OV (ex_fieldAddrB fl36_0 rfl)<|OY rfl<|OV (EL ty3 rfl (((hr.to0 H4).elem hp hp1) 0 _ rfl))<|cOp e27<|OY rfl<|OT1 (ex_eql rfl rfl) (rfl)<|Xt rfl rfl<|Xa rfl<|Xr e27<|J5<|FN1 rfl rfl<|⟨bt trivial, (HR.all H4).noRows⟩
end Go.Proofs.YtbninklfoogmdaaGreat
/- Walks of layer 2, printed by wip/gen/codec.py. -/
namespace Go.Proofs.YtbninklfoogmdaaGreat
open Go Go.RowKit
set_option linter.unusedVariables false
attribute [local irreducible] Still Ops Does Cd
set_option maxRecDepth 100000 in
set_option maxHeartbeats 32000000 in
theorem notes_law (A : Option Addr) (k : Nat) (l : List Nt) (okl : Nat → Prop) (w0 : World) (hl : Sl (NtR w0 okl) 16 w0 okl A l) (hn : l.length ≤ 839000000000) : Does Tryz.prog 5 #[.slice A l.length k] w0 (fun r w' => r = .bool true ∧ Hp w0 w' [] []) := by
 refine does_of Tryz.func5 Tryz.ntmps5 rfl<|cR e46 ?_
 have H := Hp.refl w0
 refine Rq<|Xa rfl<|Xr e46<|Rq<|Xm rfl<|OQ (EC gf12 rfl) (replay_r A k l (fun x => okl x ∧ x < w0.heap.size) _ (hl.toN H fun x hx hlt => ⟨by simp, hx, hlt⟩) (by omega)) ?_
 rintro _ w1 ⟨cs0, e0, b, rfl, hb0, hrep0, Hd⟩
 have HR := H.callN Hd
 have H1 : Hp w1 w1 [] [] := Hp.refl _
 obtain ⟨X1, x1, X2, x2, X3, x3, rfl, _⟩ := id hb0
 cases hrp : repl Bo.empty l
 obtain ⟨_, rfl⟩ := hrep0.none hrp
 refine Xm rfl<|Xe rfl rfl<|Xe rfl rfl<|cOp e46<|OA ty27 H1<|fun w2 g3 H2 hg3=>OS ty27 H2 0 (vs := [.slice X1 b.groups.length x1, .slice X2 b.rights.length x2, .slice X3 b.last.length x3]) rfl rfl rfl rfl rfl (Nat.le_refl 3) rfl<|fun w3 H3=>Xa rfl<|Xr e46<|J1<|Rq<|OC (EC gf7 rfl) (awake_v _)<|fun w4 Hd=>have H4:=H3.callN Hd;Xn rfl<|Xm rfl<|cOp e46<|OY rfl<|Xm rfl<|OY rfl<|OT1 (ex_neq rfl rfl) (by decide)<|Xu rfl rfl<|Xr e46<|J3 rfl<|Rq<|OC (EC gf7 rfl) (awake_v _)<|fun w5 Hd=>have H5:=H4.callN Hd;Xa rfl<|Xr e46<|J5<|FN1 rfl rfl<|⟨rfl, (HR.all H5).noRows⟩
 obtain ⟨hbb, rfl, hg⟩ := hrep0.some hrp
 subst hbb
 refine Xm rfl<|Xe rfl rfl<|Xe rfl rfl<|cOp e46<|OA ty27 H1<|fun w2 g3 H2 hg3=>OS ty27 H2 0 (vs := [.slice X1 b.groups.length x1, .slice X2 b.rights.length x2, .slice X3 b.last.length x3]) rfl rfl rfl rfl rfl (Nat.le_refl 3) rfl<|fun w3 H3=>Xa rfl<|Xr e46<|J1<|Rq<|OC (EC gf7 rfl) (awake_v _)<|fun w4 Hd=>have H4:=H3.callN Hd;Xn rfl<|Xm rfl<|cOp e46<|OY rfl<|Xm rfl<|OY rfl<|OT0 (ex_neq rfl rfl) (by decide)<|Xu rfl rfl<|Xr e46<|J4 rfl<|J6<|Rq<|OV (EN ty27 rfl (vs := [.slice X1 b.groups.length x1, .slice X2 b.rights.length x2, .slice X3 b.last.length x3]) rfl (H4.cellsR (i := 0) rfl rfl)) ?_
 have hnn := notes_len hg hrp
 obtain ⟨_, hx1, hx2, hx3⟩ := hb0.of3
 have hg3 := H4.lt (i := 0) rfl
 obtain ⟨n2, hn2⟩ : ∃ n, n = w4.heap.size := ⟨_, rfl⟩
 refine OQ (EC gf17 rfl) (notes_v b X1 x1 X2 x2 X3 x3 l.length _ _ (hx1.toS H4 k0) (hx2.toR H4 k0) (hx3.toM H4 k0) hg (by omega) (by omega)) ?_
 rintro _ w5 ⟨AN, kN, rfl, hN, Hd⟩
 rw [← hn2] at hN
 have HN1 := H4.callN Hd
 have hsN := Hd.size
 have H5 := HN1.here
 refine Xa rfl<|Xr e46<|Rq<|Xm rfl ?_
 have hmk := notes_make hg
 obtain ⟨n3, hn3⟩ : ∃ n, n = w5.heap.size := ⟨_, rfl⟩
 refine OQ (EC gf6 rfl) (replay_v AN kN b.notes _ _ hN (by omega)) ?_
 rintro _ w6 ⟨cs1, e1, b1, rfl, hb1, hrep1, Hd⟩
 rw [← hn3] at hb1
 obtain ⟨hbb, rfl, _⟩ := hrep1.some hmk
 subst hbb
 obtain ⟨Y1, y1, Y2, y2, Y3, y3, rfl, hy1, hy2, _⟩ := hb1
 have HV := H5.callN Hd
 have hsV := Hd.size
 have H6 := HV.here
 refine Xm rfl<|Xe rfl rfl<|cOp e46<|Xe rfl rfl<|OA ty27 H6<|fun w7 g6 H7 hg6=>OS ty27 H7 1 (vs := [.slice Y1 b.groups.length y1, .slice Y2 b.rights.length y2, .slice Y3 0 y3]) rfl rfl rfl rfl rfl (Nat.le_refl 3) rfl<|fun w8 H8=>Xa rfl<|Xr e46<|Rq<|Xm rfl<|OV (EN ty27 rfl (vs := [.slice X1 b.groups.length x1, .slice X2 b.rights.length x2, .slice X3 b.last.length x3]) rfl (H8.cellsR (i := 0) rfl rfl)) ?_
 have HX := HN1.all (HV.all H8)
 refine OQ (EC gf18 rfl) (notes_r b X1 x1 X2 x2 X3 b.last.length x3 l.length _ _ (hx1.toS HX k0) (hx2.toR HX k0) hg (by omega) (by omega)) ?_
 rintro _ w9 ⟨AM, kM, rfl, hM, Hd⟩
 have H9 := H8.callN Hd
 have hkd30 : ∀ x, n2 ≤ x → x < w5.heap.size → x ∉ bl [((some g3, 27, [.slice X1 b.groups.length x1, .slice X2 b.rights.length x2, .slice X3 b.last.length x3]) : Ent)] ∧ (fun _ => True) x := fun x hx _ => ⟨fun hb => (show False from by
   have h1 : g3 = x := by simpa using bl_one hb
   omega), trivial⟩
 refine OC (EC gf14 rfl) (same_nts AN AM kN kM b.notes (fun _ => True) _ _ (hN.toN (HV.all H9) hkd30) hM (by omega))<|fun w10 Hd=>have H10:=H9.callN Hd;cOp e46<|Xm rfl<|OY rfl<|Xm rfl<|cOp e46<|OY rfl<|OT1 (ex_eql rfl rfl) (rfl)<|Xt rfl rfl<|Xm rfl<|cOp e46<|OY rfl<|OV (EN ty27 rfl (vs := [.slice Y1 b.groups.length y1, .slice Y2 b.rights.length y2, .slice Y3 0 y3]) rfl (H10.cellsR (i := 1) rfl rfl))<|OY rfl<|OV (EN ty27 rfl (vs := [.slice X1 b.groups.length x1, .slice X2 b.rights.length x2, .slice X3 b.last.length x3]) rfl (H10.cellsR (i := 0) rfl rfl))<|cOp e46<|OY rfl ?_
 have hkd38 : ∀ x, n3 ≤ x → x < w6.heap.size → x ∉ bl [((some g3, 27, [.slice X1 b.groups.length x1, .slice X2 b.rights.length x2, .slice X3 b.last.length x3]) : Ent)] ∧ (fun _ => True) x := fun x hx _ => ⟨fun hb => (show False from by
   have h1 : g3 = x := by simpa using bl_one hb
   omega), trivial⟩
 have hz := hrep0.size (by omega)
 have HX2 := HN1.all (HV.all H10)
 refine OC (EC gf10 rfl) (alike_r b.groups b.rights Y1 y1 Y2 y2 Y3 0 y3 X1 x1 X2 x2 X3 b.last.length x3 (fun _ => True) _ _ (hy1.toS H10 hkd38) (hy2.toR H10 hkd38) (hx1.toS HX2 k0) (hx2.toR HX2 k0) hz.1 hz.2.1 hz.2.2.2)<|fun w11 Hd=>have H11:=H10.callN Hd;Xt rfl rfl<|Xm rfl<|cOp e46<|OY rfl<|Xf fl27_2 rfl<|OY rfl<|OV (EL ty25 rfl (H11.cell (i := 1) rfl rfl))<|cOp e46<|OY rfl<|OV (ES Tryz.underlying25 rfl)<|OY rfl<|OT1 (ex_eql rfl rfl) (rfl)<|Xt rfl rfl<|Xa rfl<|Xr e46<|J5<|FN1 rfl rfl<|⟨rfl, (HR.all (HN1.all (HV.all H11))).noRows⟩
end Go.Proofs.YtbninklfoogmdaaGreat
/-
  What a row's step needs of arguments that came in: a slice of bytes, with its size.
-/
namespace Go.Proofs.YtbninklfoogmdaaGreat
open Go Go.ChangeShapes Go.WideShapes Go.ChangeAt Go.RowKit
section
variable {H : Type} {enc : TypeId × Value → H} {P : Program} {w : World} {base : Nat} {spare : Nat → Bool} {held : Bool}
theorem wf8 {n : Int} (h : (Lit.int .u8 n).wf = true) : ∃ c : UInt8, n = (c.toNat : Int) := by
  simp only [Lit.wf, Bool.and_eq_true, decide_eq_true_eq] at h
  have h1 : IntKind.u8.min = 0 := rfl
  have h2 : IntKind.u8.max = 255 := rfl
  refine ⟨UInt8.ofNat n.toNat, ?_⟩
  have : (UInt8.ofNat n.toNat).toNat = n.toNat := by simp; omega
  rw [this]; omega
theorem wf8s : ∀ {zs : List Int}, (∀ n ∈ zs, (Lit.int .u8 n).wf = true) → ∃ b : List UInt8, zs = b.map fun c => (c.toNat : Int)
  | [], _ => ⟨[], rfl⟩
  | z :: zs, h => by
    obtain ⟨c, hc⟩ := wf8 (h z (by simp))
    obtain ⟨b, hb⟩ := wf8s (fun n hn => h n (List.mem_cons_of_mem _ hn))
    exact ⟨c :: b, by rw [hc, hb]; rfl⟩
/-- A slice of bytes: its bytes, where they lie. -/
theorem bytes_in {r : Reach} {b0 : Nat} {t e : TypeId} {v : Value} {d : DataW H} {ps : List MemPlace} (ht : P.underlying t = some (.slice e)) (he : P.underlying e = some (.int .u8)) (hc : P.cellsOf e = 1)
    (hval : Value.okWide P w r b0 t v) (hd : DataW.Trod enc P w 0 (fun _ => true) true t v d ps) :
    ∃ (A : Option Addr) (b : List UInt8) (c : Nat), v = .slice A b.length c ∧ Rd w A b.length 1 (u8s b) ∧ b.length ≤ c ∧ (b.length = 0 ∨ ∃ x y, d = .slice x y ∧ x.length = b.length) := by
  obtain ⟨A, len, cap, rfl⟩ := okWide_slice ht hval
  obtain ⟨fuel, hf⟩ := hd
  rcases open_ints ht he hc hf with ⟨hcs, _⟩ | ⟨x, l, c, zs, hcs, _, hl, hm, hz, hdd, hcell, hwz⟩
  · simp [Value.cells] at hcs
    obtain ⟨rfl, rfl, rfl⟩ := hcs
    exact ⟨none, [], 0, rfl, ⟨rfl, fun _ h => (by cases h), fun _ => rfl⟩, Nat.le_refl _, .inl rfl⟩
  · simp [Value.cells] at hcs
    obtain ⟨rfl, rfl, rfl⟩ := hcs
    rw [if_pos rfl] at hz
    obtain ⟨b, hb⟩ := wf8s (zs := zs.take len) (fun n hn => hwz n (List.mem_of_mem_take hn))
    have hlen : b.length = len := by
      have := congrArg List.length hb
      simp at this; omega
    refine ⟨some x, b, cap, by rw [hlen], ⟨by simp [u8s], fun a ha j u hu => ?_, fun h => (by cases h)⟩, by omega, .inr ⟨lits .u8 (zs.take len), lits .u8 (zs.drop len), (Prod.mk.inj hdd).1, by simp [lits]; omega⟩⟩
    cases ha
    have hj : j < b.length := by
      have := (List.getElem?_eq_some_iff.1 hu).1
      simpa [u8s] using this
    rw [hcell j (by omega)]
    have h1 : (zs.take len)[j]? = some ((b[j]'hj).toNat : Int) := by rw [hb]; simp [hj]
    have h2 : zs[j]? = some ((b[j]'hj).toNat : Int) := by rw [← h1, List.getElem?_take, if_pos (by omega)]
    have h3 : u = .int .u8 ((b[j]'hj).toNat : Int) := by
      simp [u8s, List.getElem?_map, List.getElem?_eq_getElem hj] at hu
      exact hu.symm
    rw [h3, List.getD_eq_getElem?_getD, h2]; rfl
/-- .. and how many at most. -/
theorem bytes_most {ts : List TypeId} {ds : List (DataW H)} (h : (DataW.weightsEach P ts ds).all (· ≤ reachBytes) = true) {j : Nat} {t e : TypeId} {d : DataW H} {n : Nat} (ht : ts[j]? = some t) (hd : ds[j]? = some d) (hu : P.underlying t = some (.slice e)) (hb : P.bytesOf e = 1)
    (hx : n = 0 ∨ ∃ x y, d = .slice x y ∧ x.length = n) : n ≤ 140737488351232 := by
  rcases hx with rfl | ⟨x, y, rfl, hx⟩
  · omega
  · have := sized_slice h ht hd hu
    rw [hb] at this
    simp only [reachBytes] at this
    omega
end
end Go.Proofs.YtbninklfoogmdaaGreat
/-
  Notes that come in as a law's argument.
-/
namespace Go.Proofs.YtbninklfoogmdaaGreat
open Go Go.ChangeShapes Go.WideShapes Go.ChangeAt Go.RowKit

inductive Fk
  | int
  | text
  | bytes
def Fl (w : World) : Fk → Value → Prop
  | .int, v => ∃ n : Int, v = .int .i64 n
  | .text, v => ∃ s : Blk, v = strV s
  | .bytes, v => ∃ (A : Option Addr) (b : Blk) (c : Nat), v = .slice A b.length c ∧ Bs w (fun _ => True) A b
def fkF (P : Program) (rec : TypeId → List Fk → Bool) (ks : List Fk) : Nat → List Field → Bool
  | off, [] => decide (off = ks.length)
  | off, f :: fs => match P.info? f.type with
    | some i => decide (f.offset = off) && decide (off + i.size ≤ ks.length) && rec f.type ((ks.drop off).take i.size) && fkF P rec ks (off + i.size) fs
    | none => false
/-- The type's cells are fields of these kinds. -/
def fkOf (P : Program) : Nat → TypeId → List Fk → Bool
  | 0, _, _ => false
  | d + 1, t, ks => match P.underlying t with
    | some (.int .i64) => match ks with | [.int] => true | _ => false
    | some .string => match ks with | [.text] => true | _ => false
    | some (.slice e) => match ks with
      | [.bytes] => match P.underlying e with | some (.int .u8) => decide (P.cellsOf e = 1) && decide (P.bytesOf e = 1) | _ => false
      | _ => false
    | some (.struct fs) => decide (P.cellsOf t = ks.length) && fkF P (fkOf P d) ks 0 fs.toList
    | _ => false
section
variable {H : Type} {enc : TypeId × Value → H} {P : Program} {w : World} {base : Nat} {spare : Nat → Bool} {held : Bool}
theorem fk_fields {rec : TypeId → List Fk → Bool} {ks : List Fk} {cs : List Value} (hl : cs.length = ks.length) {m : Nat}
    (ih : ∀ t k n y, rec t ((ks.drop k).take n) = true → DataW.trod enc P w base spare held m t ((cs.drop k).take n) = some y → (∀ q ∈ y.1.weights P t, q ≤ 140737488351232) → All2 (Fl w) ((ks.drop k).take n) ((cs.drop k).take n)) :
    ∀ (fs : List Field) (ys : List (DataW H × List MemPlace)) (off : Nat), off ≤ ks.length → fkF P rec ks off fs = true → fs.length = ys.length →
      (∀ (i : Nat) (f : Field), fs[i]? = some f → DataW.trod enc P w base spare held m f.type ((cs.drop f.offset).take (P.cellsOf f.type)) = ys[i]?) → (∀ q ∈ DataW.weightsEach P (fs.map (·.type)) (ys.map (·.1)), q ≤ 140737488351232) →
      All2 (Fl w) (ks.drop off) (cs.drop off)
  | [], _, off, _, h, _, _, _ => by
    unfold fkF at h
    have h0 := of_decide_eq_true h
    rw [List.drop_of_length_le (by omega), List.drop_of_length_le (by omega)]; trivial
  | f :: fs, ys, off, hoff, h, hlen, hall, hw => by
    unfold fkF at h
    split at h
    · rename_i i hi
      simp only [Bool.and_eq_true, decide_eq_true_eq] at h
      obtain ⟨⟨⟨h1, h2⟩, h3⟩, h4⟩ := h
      have hco : P.cellsOf f.type = i.size := by simp [Program.cellsOf, hi]
      match ys, hlen with
      | y :: ys, hlen =>
        have h5 := hall 0 f rfl
        rw [h1, hco] at h5
        have hw' : ∀ q ∈ y.1.weights P f.type ++ DataW.weightsEach P (fs.map (·.type)) (ys.map (·.1)), q ≤ 140737488351232 := hw
        have F1 := ih f.type off i.size y h3 h5 fun q hq => hw' q (List.mem_append_left _ hq)
        have F2 := fk_fields hl ih fs ys (off + i.size) h2 h4 (by simpa using hlen) (fun j g hg => hall (j + 1) g hg) fun q hq => hw' q (List.mem_append_right _ hq)
        have := F1.app F2
        rwa [← List.drop_drop, List.take_append_drop, ← List.drop_drop, List.take_append_drop] at this
    · cases h
/-- A plain thing that comes in lies as its fields. -/
theorem fk_in : ∀ (d : Nat) (t : TypeId) (ks : List Fk) (cs : List Value) (m : Nat) (y : DataW H × List MemPlace), fkOf P d t ks = true → DataW.trod enc P w base (fun _ => true) true m t cs = some y → (∀ q ∈ y.1.weights P t, q ≤ 140737488351232) → All2 (Fl w) ks cs
  | 0, _, _, _, _, _, h, _, _ => by cases h
  | d + 1, t, ks, cs, m, y, h, ht, hw => by
    unfold fkOf at h
    split at h
    · rename_i hu
      split at h
      · obtain ⟨n, rfl, _, _⟩ := DataW.trod_int hu ht
        exact ⟨⟨n, rfl⟩, trivial⟩
      · cases h
    · rename_i hu
      split at h
      · obtain ⟨s, rfl, _⟩ := DataW.trod_string hu ht
        exact ⟨⟨s.data.toList, by simp [strV]⟩, trivial⟩
      · cases h
    · rename_i e hu
      split at h
      · split at h
        · rename_i he
          simp only [Bool.and_eq_true, decide_eq_true_eq] at h
          rcases open_ints hu he h.1 ht with ⟨rfl, _⟩ | ⟨x, l, c, zs, rfl, _, hl, hm, hz, hdd, hcell, hwz⟩
          · exact ⟨⟨none, [], 0, rfl, Bs.none _ _⟩, trivial⟩
          · rw [if_pos rfl] at hz
            obtain ⟨b, hb⟩ := wf8s (zs := zs.take l) (fun n hn => hwz n (List.mem_of_mem_take hn))
            have hlen : b.length = l := by
              have := congrArg List.length hb
              simp at this; omega
            refine ⟨⟨some x, b, c, by rw [hlen], ⟨by simp [u8s], fun a ha j u hu => ?_, fun h => (by cases h)⟩, fun _ _ _ => trivial, ?_⟩, trivial⟩
            · cases ha
              have hj : j < b.length := by
                have := (List.getElem?_eq_some_iff.1 hu).1
                simpa [u8s] using this
              rw [hcell j (by omega)]
              have h1 : (zs.take l)[j]? = some ((b[j]'hj).toNat : Int) := by rw [hb]; simp [hj]
              have h2 : zs[j]? = some ((b[j]'hj).toNat : Int) := by rw [← h1, List.getElem?_take, if_pos (by omega)]
              have h3 : u = .int .u8 ((b[j]'hj).toNat : Int) := by
                simp [u8s, List.getElem?_map, List.getElem?_eq_getElem hj] at hu
                exact hu.symm
              rw [h3, List.getD_eq_getElem?_getD, h2]; rfl
            · refine Nat.le_trans ?_ (hw (((lits .u8 (zs.take l) : List (DataW H)).length + (lits .u8 (zs.drop l) : List (DataW H)).length) * P.bytesOf e) ?_)
              · rw [h.2]; simp [lits]; omega
              · rw [(Prod.mk.inj hdd).1]
                unfold DataW.weights
                rw [hu]
                exact List.mem_cons_self
        · cases h
      · cases h
    · rename_i fs hu
      simp only [Bool.and_eq_true, decide_eq_true_eq] at h
      obtain ⟨h1, h2⟩ := h
      obtain ⟨ys, n, rfl, rfl, hl, hlen, hall⟩ := DataW.trod_struct hu ht
      refine fk_fields (rec := fkOf P d) (cs := cs) (ks := ks) (by omega) (fun t' k n' y' h3 h4 h5 => fk_in d t' _ _ n y' h3 h4 h5) fs.toList ys 0 (Nat.zero_le _) h2 (by simp [hlen]) (fun i f hf => hall i f (by simpa using hf)) ?_
      unfold DataW.weights at hw
      rw [hu] at hw
      exact hw
    · cases h
end
def ntK : List Fk := [.int, .int, .int, .int, .int, .int, .int, .bytes, .int, .bytes, .int, .text, .int, .int, .int, .int]
theorem nt_of {w : World} {cs : List Value} (h : All2 (Fl w) ntK cs) : ∃ n : Nt, NtR w (fun _ => True) cs n := by
  have hlen : cs.length = 16 := h.len.symm
  match cs, hlen, h with
  | [c0, c1, c2, c3, c4, c5, c6, c7, c8, c9, c10, c11, c12, c13, c14, c15], _, h =>
    obtain ⟨⟨n0, rfl⟩, ⟨n1, rfl⟩, ⟨n2, rfl⟩, ⟨n3, rfl⟩, ⟨n4, rfl⟩, ⟨n5, rfl⟩, ⟨n6, rfl⟩, ⟨A, b, c, rfl, hb⟩, ⟨n8, rfl⟩, ⟨A2, b2, c2', rfl, hb2⟩, ⟨n10, rfl⟩, ⟨s, rfl⟩, ⟨n12, rfl⟩, ⟨n13, rfl⟩, ⟨n14, rfl⟩, ⟨n15, rfl⟩, _⟩ := h
    exact ⟨⟨n0, n1, ⟨n2, n3⟩, ⟨n4, ⟨n5, n6⟩, b⟩, ⟨n8, b2⟩, ⟨n10, s, n12, n13⟩, n14, n15⟩, A, c, A2, c2', rfl, hb, hb2⟩
theorem weighA_mem {H : Type} {P : Program} {t : TypeId} {l : List (DataW H)} {d : DataW H} (hd : d ∈ l) {n : Nat} (hn : n ∈ d.weights P t) : n ∈ DataW.weightsAll P t l := by
  induction l with
  | nil => cases hd
  | cons a l ih =>
    show n ∈ a.weights P t ++ DataW.weightsAll P t l
    rcases List.mem_cons.1 hd with rfl | hd
    · exact List.mem_append_left _ hn
    · exact List.mem_append_right _ (ih hd)
theorem all2_ex {α : Type} {R : List Value → α → Prop} : ∀ n (f : Nat → List Value), (∀ i, i < n → ∃ a, R (f i) a) → ∃ l : List α, l.length = n ∧ All2 R ((List.range n).map f) l
  | 0, _, _ => ⟨[], rfl, trivial⟩
  | n + 1, f, h => by
    obtain ⟨l, hl, hR⟩ := all2_ex n f fun i hi => h i (by omega)
    obtain ⟨a, ha⟩ := h n (by omega)
    refine ⟨l ++ [a], by simp [hl], ?_⟩
    rw [List.range_succ, List.map_append]
    exact hR.app ⟨ha, trivial⟩
section
variable {H : Type} {enc : TypeId × Value → H} {w : World}
set_option maxRecDepth 10000 in
theorem notes_in {r : Reach} {b0 : Nat} {v : Value} {d : DataW H} {ps : List MemPlace} (hval : Value.okWide Tryz.prog w r b0 22 v) (hd : DataW.Trod enc Tryz.prog w 0 (fun _ => true) true 22 v d ps)
    {ts : List TypeId} {ds : List (DataW H)} (hs : (DataW.weightsEach Tryz.prog ts ds).all (· ≤ reachBytes) = true) {j : Nat} (hts : ts[j]? = some 22) (hds : ds[j]? = some d) :
    ∃ (A : Option Addr) (l : List Nt) (c : Nat), v = .slice A l.length c ∧ Sl (NtR w (fun _ => True)) 16 w (fun _ => True) A l ∧ l.length ≤ 838000000000 ∧ l.length ≤ c ∧ (l.length = 0 ∨ ∃ x y, d = .slice x y ∧ x.length = l.length) := by
  have hw : ∀ q ∈ d.weights Tryz.prog 22, q ≤ 140737488351232 := fun q hq => by
    have := List.all_eq_true.1 hs _ (DataW.weights_mem_each hts hds q hq)
    have this := of_decide_eq_true this
    simp only [reachBytes] at this
    omega
  have hc16 : Tryz.prog.cellsOf 45 = 16 := by kernel_rfl
  have hb168 : Tryz.prog.bytesOf 45 = 168 := by kernel_rfl
  obtain ⟨A, len, cap, rfl⟩ := okWide_slice Tryz.underlying22 hval
  obtain ⟨fuel, hf⟩ := hd
  rcases DataW.trod_slice Tryz.underlying22 hf with ⟨hcs, _⟩ | ⟨a, l, c, elems, rest, n, _, hcs, hdd, _, hlc, _, hlen, hel, _, _⟩
  · simp [Value.cells] at hcs
    obtain ⟨rfl, rfl, rfl⟩ := hcs
    exact ⟨none, [], 0, rfl, Sl.none _ _ _ _, Nat.zero_le _, Nat.le_refl _, .inl rfl⟩
  · simp [Value.cells] at hcs
    obtain ⟨rfl, rfl, rfl⟩ := hcs
    have hdd1 := (Prod.mk.inj hdd).1
    subst hdd1
    have hbig : len * 168 ≤ 140737488351232 := by
      refine Nat.le_trans ?_ (hw (((elems.map (·.1)).length + (rest.map (·.1)).length) * Tryz.prog.bytesOf 45) ?_)
      · rw [hb168]; exact Nat.mul_le_mul_right _ (by simp [hlen])
      · unfold DataW.weights
        rw [Tryz.underlying22]
        exact List.mem_cons_self
    obtain ⟨xs, hxl, hR⟩ := all2_ex (R := fun p x => NtR w (fun _ => True) p x ∧ p.length = 16) len (fun i => (w.cells? 0 (a.add (i * 16)) 16).getD []) fun i hi => by
      have hb := hel i hi
      rw [hc16, List.getElem?_eq_getElem (by omega), Option.bind_eq_some_iff] at hb
      obtain ⟨cs', hcs, hy'⟩ := hb
      rw [hcs]
      obtain ⟨x, hx⟩ := nt_of (fk_in 4 45 ntK cs' n _ (by kernel_rfl) hy' fun q hq => hw q (by
        unfold DataW.weights
        rw [Tryz.underlying22]
        exact List.mem_cons_of_mem _ (List.mem_append_left _ (weighA_mem (List.mem_map.2 ⟨elems[i]'(by omega), List.getElem_mem _, rfl⟩) hq))))
      exact ⟨x, hx, hx.len⟩
    have hpl : Pl 16 ((List.range len).map fun i => (w.cells? 0 (a.add (i * 16)) 16).getD []) := fun p hp => by
      obtain ⟨k, hk⟩ := List.getElem?_of_mem hp
      obtain ⟨x, _, hx⟩ := hR.getL hk
      exact hx.2
    refine ⟨some a, xs, cap, by rw [hxl], ⟨_, hpl, ⟨by rw [hpl.len, List.length_map, List.length_range, hxl], fun a' ha k u hu => ?_, fun h => (by cases h)⟩, fun _ _ _ => trivial, hR.imp fun p x h => h.1⟩, by omega, by omega, .inr ⟨_, _, rfl, by simp; omega⟩⟩
    cases ha
    have hk := (List.getElem?_eq_some_iff.1 hu).1
    rw [hpl.len, List.length_map, List.length_range] at hk
    have hi : k / 16 < len := by omega
    have hb := hel (k / 16) hi
    rw [hc16, List.getElem?_eq_getElem (by omega), Option.bind_eq_some_iff] at hb
    obtain ⟨cs', hcs, _⟩ := hb
    have hat : ((List.range len).map fun i => (w.cells? 0 (a.add (i * 16)) 16).getD [])[k / 16]? = some cs' := by
      rw [List.getElem?_map, List.getElem?_range hi]
      simp only [Option.map_some]
      rw [hcs]; rfl
    have hq : cs'[k % 16]? = some u := by
      have hlt : k % 16 < cs'.length := by rw [hpl.at hat]; omega
      have h2 := hpl.get hat (List.getElem?_eq_getElem hlt)
      rw [show k / 16 * 16 + k % 16 = k by omega, hu] at h2
      rw [List.getElem?_eq_getElem hlt]; exact h2.symm
    have h3 := (World.cells?_some hcs).2.2 (k % 16) (by omega)
    rw [hq, add_add, show k / 16 * 16 + k % 16 = k by omega] at h3
    exact h3
end
end Go.Proofs.YtbninklfoogmdaaGreat
