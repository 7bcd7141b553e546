/- Walks of layer 2, printed by wip/gen/codec.py. -/
import Derived.Test.YtbninklfoogmdaaGreatNf
import Derived.Test.YtbninklfoogmdaaGreatVy
import Derived.Test.YtbninklfoogmdaaGreatVaA
namespace Go.Proofs.YtbninklfoogmdaaGreat
open Go Go.RowKit
set_option linter.unusedVariables false
attribute [local irreducible] Still Ops Does Cd
set_option maxRecDepth 100000 in
set_option maxHeartbeats 4000000 in
theorem plainR (A B : Option Addr) (k k2 : Nat) (l : List Rt) (ok ok2 : Nat → Prop) (w0 : World) (hl : Sl RtR 4 w0 ok A l) (hl2 : Sl RtR 4 w0 ok2 B l) (hn : l.length ≤ 1000000000000000000) : Does Tryz.prog 27 #[.slice A l.length k, .slice B l.length k2] w0 (fun r w' => r = .bool true ∧ Hp w0 w' [] []) := by
 refine does_of Tryz.func27 Tryz.ntmps27 rfl<|cR e26 ?_
 have H := Hp.refl w0
 obtain ⟨ps, hp, hr, _, h2⟩ := hl
 obtain ⟨qs, hq, hrb, _, h2b⟩ := hl2
 refine Rq<|Xa rfl<|Xr e26<|J1<|Rq<|Xm rfl<|OV (ES Tryz.underlying24 rfl)<|Xm rfl<|OV (ES Tryz.underlying24 rfl)<|cOp e26<|OT0 (ex_neq rfl rfl) (fun h => h rfl)<|Xr e26<|J4 rfl<|J6<|J1<|Rq<|Xa rfl<|Xr e26<|J7<|run_loop (fun nQ lQ w => ∃ (i : Nat) (y : Int), l.length - i = nQ ∧ Fits [some (.slice A l.length k), some (.slice B l.length k2), none, none, none, some (.int .i64 y), none, none, none, none, none, none, none, none, none, none, none, none, none, none, none, none, none, none, none, none] lQ ∧ y = (i : Int) ∧ i ≤ l.length ∧ Hp w0 w [] []) (l.length) ?_ ?_
 exact ⟨0, _, rfl, (fs (fs (fn (fn (fn (fs (fn (fn (fn (fn (fn (fn (fn (fn (fn (fn (fn (fn (fn (fn (fn (fn (fn (fn (fn (fn f0)))))))))))))))))))))))))), rfl, Nat.zero_le _, H⟩
 rintro nQ lQ w1 ⟨i, y, rfl, hfit, rfl, hi, H1⟩
 obtain ⟨j, rfl⟩ := hfit.open
 refine cR e26 ?_
 clear hfit
 refine J1<|Rq<|Xm rfl<|Xm rfl<|OV (ES Tryz.underlying24 rfl)<|OT (ex_lss rfl rfl) (fun hp14 => ?_) (fun hp14 => ?_)
 have hil : i < l.length := by omega
 obtain ⟨x, hx⟩ := get_of hil
 obtain ⟨p1, hp1, hR⟩ := h2.get hx
 obtain ⟨p2, hp2, hR2⟩ := h2b.get hx
 obtain ⟨a1, ha1⟩ := hr.some_ (by omega)
 obtain ⟨a2, ha2⟩ := hrb.some_ (by omega)
 subst ha1 ha2
 unfold RtR at hR hR2
 subst hR hR2
 refine Xr e26<|J3 rfl<|J6<|J1<|J7<|J1<|run_still mixed (by kernel_rfl) ?_
 rintro w2 hw2
 have H2 := Hp.drew H1; rw [← hw2] at H2
 refine SV (ex_move rfl)<|SV (ex_move rfl)<|SV (EI Tryz.underlying24 ty43 rfl rfl (len := l.length) (i := i) (by omega) (by omega) rfl)<|SV (EN ty43 rfl (vs := [.int .i64 x.g, strV x.key, .int .i64 x.lease, .int .i64 x.net]) rfl ((hr.to0 H2).elem hp hp1))<|cStl e26<|SV (ex_move rfl)<|SV (ex_move rfl)<|SV (EI Tryz.underlying24 ty43 rfl rfl (len := l.length) (i := i) (by omega) (by omega) rfl)<|SV (EN ty43 rfl (vs := [.int .i64 x.g, strV x.key, .int .i64 x.lease, .int .i64 x.net]) rfl ((hrb.to0 H2).elem hq hp2))<|cStl e26<|SV (ex_neq_rt rfl rfl)<|still_nil<|cR e26<|J4 rfl<|J6<|run_nil (blk_normal ?_)
 refine J2<|Xm rfl<|OV (ex_add rfl rfl (IntWalk.i64_in _ (by omega)))<|Xa rfl<|Xr e26<|run_nil (rnd_normal ?_)
 exact ⟨l.length - (i + 1), by omega, i + 1, _, rfl, (fs (fs (fn (fn (fn (fs (fn (fn (fn (fn (fn (fn (fn (fn (fn (fn (fn (fn (fn (fn (fn (fn (fn (fn (fn (fn f0)))))))))))))))))))))))))), by omega, by omega, H2.noRows⟩
 refine Xr e26<|J4 rfl<|J8<|rnd_exit<|blk_exit<|Rq<|Xa rfl<|Xr e26<|J5<|FN1 rfl rfl<|⟨rfl, H1.noRows⟩
set_option maxRecDepth 100000 in
set_option maxHeartbeats 4000000 in
theorem plainM (A B : Option Addr) (k k2 : Nat) (l : List Mk) (ok ok2 : Nat → Prop) (w0 : World) (hl : Sl MkR 7 w0 ok A l) (hl2 : Sl MkR 7 w0 ok2 B l) (hn : l.length ≤ 1000000000000000000) : Does Tryz.prog 30 #[.slice A l.length k, .slice B l.length k2] w0 (fun r w' => r = .bool true ∧ Hp w0 w' [] []) := by
 refine does_of Tryz.func30 Tryz.ntmps30 rfl<|cR e26 ?_
 have H := Hp.refl w0
 obtain ⟨ps, hp, hr, _, h2⟩ := hl
 obtain ⟨qs, hq, hrb, _, h2b⟩ := hl2
 refine Rq<|Xa rfl<|Xr e26<|J1<|Rq<|Xm rfl<|OV (ES Tryz.underlying25 rfl)<|Xm rfl<|OV (ES Tryz.underlying25 rfl)<|cOp e26<|OT0 (ex_neq rfl rfl) (fun h => h rfl)<|Xr e26<|J4 rfl<|J6<|J1<|Rq<|Xa rfl<|Xr e26<|J7<|run_loop (fun nQ lQ w => ∃ (i : Nat) (y : Int), l.length - i = nQ ∧ Fits [some (.slice A l.length k), some (.slice B l.length k2), none, none, none, some (.int .i64 y), none, none, none, none, none, none, none, none, none, none, none, none, none, none, none, none, none, none, none, none] lQ ∧ y = (i : Int) ∧ i ≤ l.length ∧ Hp w0 w [] []) (l.length) ?_ ?_
 exact ⟨0, _, rfl, (fs (fs (fn (fn (fn (fs (fn (fn (fn (fn (fn (fn (fn (fn (fn (fn (fn (fn (fn (fn (fn (fn (fn (fn (fn (fn f0)))))))))))))))))))))))))), rfl, Nat.zero_le _, H⟩
 rintro nQ lQ w1 ⟨i, y, rfl, hfit, rfl, hi, H1⟩
 obtain ⟨j, rfl⟩ := hfit.open
 refine cR e26 ?_
 clear hfit
 refine J1<|Rq<|Xm rfl<|Xm rfl<|OV (ES Tryz.underlying25 rfl)<|OT (ex_lss rfl rfl) (fun hp14 => ?_) (fun hp14 => ?_)
 have hil : i < l.length := by omega
 obtain ⟨x, hx⟩ := get_of hil
 obtain ⟨p1, hp1, hR⟩ := h2.get hx
 obtain ⟨p2, hp2, hR2⟩ := h2b.get hx
 obtain ⟨a1, ha1⟩ := hr.some_ (by omega)
 obtain ⟨a2, ha2⟩ := hrb.some_ (by omega)
 subst ha1 ha2
 unfold MkR at hR hR2
 subst hR hR2
 refine Xr e26<|J3 rfl<|J6<|J1<|J7<|J1<|run_still mixed (by kernel_rfl) ?_
 rintro w2 hw2
 have H2 := Hp.drew H1; rw [← hw2] at H2
 refine SV (ex_move rfl)<|SV (ex_move rfl)<|SV (EI Tryz.underlying25 ty63 rfl rfl (len := l.length) (i := i) (by omega) (by omega) rfl)<|SV (EN ty63 rfl (vs := [.int .i64 x.client, .int .i64 x.seq, .bool false, .int .i64 0, .int .i64 0, .int .i64 0, .int .i64 0]) rfl ((hr.to0 H2).elem hp hp1))<|cStl e26<|SV (ex_move rfl)<|SV (ex_move rfl)<|SV (EI Tryz.underlying25 ty63 rfl rfl (len := l.length) (i := i) (by omega) (by omega) rfl)<|SV (EN ty63 rfl (vs := [.int .i64 x.client, .int .i64 x.seq, .bool false, .int .i64 0, .int .i64 0, .int .i64 0, .int .i64 0]) rfl ((hrb.to0 H2).elem hq hp2))<|cStl e26<|SV (ex_neq_mk rfl rfl)<|still_nil<|cR e26<|J4 rfl<|J6<|run_nil (blk_normal ?_)
 refine J2<|Xm rfl<|OV (ex_add rfl rfl (IntWalk.i64_in _ (by omega)))<|Xa rfl<|Xr e26<|run_nil (rnd_normal ?_)
 exact ⟨l.length - (i + 1), by omega, i + 1, _, rfl, (fs (fs (fn (fn (fn (fs (fn (fn (fn (fn (fn (fn (fn (fn (fn (fn (fn (fn (fn (fn (fn (fn (fn (fn (fn (fn f0)))))))))))))))))))))))))), by omega, by omega, H2.noRows⟩
 refine Xr e26<|J4 rfl<|J8<|rnd_exit<|blk_exit<|Rq<|Xa rfl<|Xr e26<|J5<|FN1 rfl rfl<|⟨rfl, H1.noRows⟩
set_option maxRecDepth 100000 in
set_option maxHeartbeats 4000000 in
theorem same_vt (x : Vt) (Ax Ay : Option Addr) (kx ky : Nat) (ok ok2 : Nat → Prop) (w0 : World) (ha : Bs w0 ok Ax x.val) (hb : Bs w0 ok2 Ay x.val) : Does Tryz.prog 31 #[.agg [.int .i64 x.slot, .int .i64 x.b.r, .int .i64 x.b.n, .slice Ax x.val.length kx].toArray, .agg [.int .i64 x.slot, .int .i64 x.b.r, .int .i64 x.b.n, .slice Ay x.val.length ky].toArray] w0 (fun r w' => r = .bool true ∧ Hp w0 w' [] []) := by
 refine does_of Tryz.func31 Tryz.ntmps31 rfl<|cR e24 ?_
 have H := Hp.refl w0
 refine Rq<|ops_box rfl rfl H<|fun w1 g1 H1 hg1=>ops_box rfl rfl H1<|fun w2 g2 H2 hg2=>Xa rfl<|Xr e24<|Rq<|Xf fl39_0 rfl<|OV (EL ty3 rfl (H2.cell (i := 0) rfl rfl))<|Xf fl39_0 rfl<|OV (EL ty3 rfl (H2.cell (i := 1) rfl rfl))<|cOp e24<|OT1 (ex_eql rfl rfl) (rfl)<|Xm rfl<|cOp e24<|OY rfl<|Xf fl39_1 rfl<|OY rfl<|OV (EN ty36 rfl (vs := [.int .i64 x.b.r, .int .i64 x.b.n]) rfl (H2.cellsR (i := 0) rfl rfl))<|cOp e24<|OY rfl<|Xf fl39_1 rfl<|OY rfl<|OV (EN ty36 rfl (vs := [.int .i64 x.b.r, .int .i64 x.b.n]) rfl (H2.cellsR (i := 1) rfl rfl))<|cOp e24<|OY rfl<|OT1 (ex_eql_bal rfl rfl) (⟨rfl, rfl⟩)<|Xt rfl rfl<|Xm rfl<|cOp e24<|OY rfl<|Xf fl39_2 rfl<|OY rfl<|OV (EL ty37 rfl (H2.cell (i := 0) rfl rfl))<|cOp e24<|OY rfl ?_
 refine Xf fl39_2 rfl<|OY rfl<|OV (EL ty37 rfl (H2.cell (i := 1) rfl rfl))<|cOp e24<|OY rfl ?_
 have hby := bytes_any Ax Ay x.val x.val kx ky _ (ha.1.to0 H2) (hb.1.to0 H2) (by have := ha.2.2; omega) (by have := hb.2.2; omega)
 rw [decide_eq_true rfl] at hby
 refine OC (EC gf49 rfl) hby<|fun w3 Hd=>have H3:=H2.callN Hd;Xt rfl rfl<|Xa rfl<|Xr e24<|J5<|FN1 rfl rfl<|⟨rfl, H3.noRows⟩
set_option maxRecDepth 100000 in
set_option maxHeartbeats 4000000 in
theorem same_en (x : En) (Ax Ay : Option Addr) (kx ky : Nat) (ok ok2 : Nat → Prop) (w0 : World) (ha : Bs w0 ok Ax x.val) (hb : Bs w0 ok2 Ay x.val) : Does Tryz.prog 32 #[.agg [.int .i64 x.slot, .slice Ax x.val.length kx].toArray, .agg [.int .i64 x.slot, .slice Ay x.val.length ky].toArray] w0 (fun r w' => r = .bool true ∧ Hp w0 w' [] []) := by
 refine does_of Tryz.func32 Tryz.ntmps32 rfl<|cR e17 ?_
 have H := Hp.refl w0
 refine Rq<|ops_box rfl rfl H<|fun w1 g1 H1 hg1=>ops_box rfl rfl H1<|fun w2 g2 H2 hg2=>Xa rfl<|Xr e17<|Rq<|Xf fl41_0 rfl<|OV (EL ty3 rfl (H2.cell (i := 0) rfl rfl))<|Xf fl41_0 rfl<|OV (EL ty3 rfl (H2.cell (i := 1) rfl rfl))<|cOp e17<|OT1 (ex_eql rfl rfl) (rfl)<|Xm rfl<|cOp e17<|OY rfl<|Xf fl41_1 rfl<|OY rfl<|OV (EL ty37 rfl (H2.cell (i := 0) rfl rfl))<|cOp e17<|OY rfl<|Xf fl41_1 rfl<|OY rfl<|OV (EL ty37 rfl (H2.cell (i := 1) rfl rfl))<|cOp e17<|OY rfl ?_
 have hby := bytes_any Ax Ay x.val x.val kx ky _ (ha.1.to0 H2) (hb.1.to0 H2) (by have := ha.2.2; omega) (by have := hb.2.2; omega)
 rw [decide_eq_true rfl] at hby
 refine OC (EC gf49 rfl) hby<|fun w3 Hd=>have H3:=H2.callN Hd;Xt rfl rfl<|Xa rfl<|Xr e17<|J5<|FN1 rfl rfl<|⟨rfl, H3.noRows⟩
set_option maxRecDepth 100000 in
set_option maxHeartbeats 4000000 in
theorem same_vts0 (A B : Option Addr) (k k2 : Nat) (l : List Vt) (ok ok2 : Nat → Prop) (w0 : World) (hl : Sl (VtR w0 ok) 4 w0 ok A l) (hl2 : Sl (VtR w0 ok2) 4 w0 ok2 B l) (hn : l.length ≤ 1000000000000000000) : Does Tryz.prog 71 #[.slice A l.length k, .slice B l.length k2, .func (.func 31) #[] #[]] w0 (fun r w' => r = .bool true ∧ Hp w0 w' [] []) := by
 refine does_of Tryz.func71 Tryz.ntmps71 rfl<|cR e30 ?_
 have H := Hp.refl w0
 obtain ⟨ps, hp, hr, _, h2⟩ := hl
 obtain ⟨qs, hq, hrb, _, h2b⟩ := hl2
 refine Rq<|Xa rfl<|Xr e30<|J1<|Rq<|Xm rfl<|OV (ES Tryz.underlying54 rfl)<|Xm rfl<|OV (ES Tryz.underlying54 rfl)<|cOp e30<|OT0 (ex_neq rfl rfl) (fun h => h rfl)<|Xr e30<|J4 rfl<|J6<|J1<|Rq<|Xa rfl<|Xr e30<|J7<|run_loop (fun nQ lQ w => ∃ (i : Nat) (y : Int), l.length - i = nQ ∧ Fits [some (.slice A l.length k), some (.slice B l.length k2), some (.func (.func 31) #[] #[]), none, none, none, none, some (.int .i64 y), none, none, none, none, none, none, none, none, none, none, none, none, none, none, none, none, none, none, none, none, none, none] lQ ∧ y = (i : Int) ∧ i ≤ l.length ∧ Hp w0 w [] []) (l.length) ?_ ?_
 exact ⟨0, _, rfl, (fs (fs (fs (fn (fn (fn (fn (fs (fn (fn (fn (fn (fn (fn (fn (fn (fn (fn (fn (fn (fn (fn (fn (fn (fn (fn (fn (fn (fn (fn f0)))))))))))))))))))))))))))))), rfl, Nat.zero_le _, H⟩
 rintro nQ lQ w1 ⟨i, y, rfl, hfit, rfl, hi, H1⟩
 obtain ⟨j, rfl⟩ := hfit.open
 refine cR e30 ?_
 clear hfit
 refine J1<|Rq<|Xm rfl<|Xm rfl<|OV (ES Tryz.underlying54 rfl)<|OT (ex_lss rfl rfl) (fun hp16 => ?_) (fun hp16 => ?_)
 have hil : i < l.length := by omega
 obtain ⟨x, hx⟩ := get_of hil
 obtain ⟨p1, hp1, hR⟩ := h2.get hx
 obtain ⟨p2, hp2, hR2⟩ := h2b.get hx
 obtain ⟨a1, ha1⟩ := hr.some_ (by omega)
 obtain ⟨a2, ha2⟩ := hrb.some_ (by omega)
 subst ha1 ha2
 obtain ⟨Ax, kx, rfl, hbx⟩ := hR
 obtain ⟨Ay, ky, rfl, hby⟩ := hR2
 refine Xr e30<|J3 rfl<|J6<|J1<|J7<|J1<|run_mixZ 10 [(true, 0), (true, 1), (true, 2), (true, 3), (true, 4), (true, 5), (true, 6), (true, 7), (true, 8), (false, 9), (false, 10)] H1 [] mixed (by decide) (by kernel_rfl) ?_
 rintro w2 hw2
 have H2 := Hp.drew H1; rw [← hw2] at H2
 refine Zm rfl rfl<|Zm rfl rfl<|Zm rfl rfl<|MP rfl<|MV (fun wz hz => EI Tryz.underlying54 ty39 rfl rfl (len := l.length) (i := i) (by omega) (by omega) rfl)<|cZ e30<|MP rfl<|MV (fun wz hz => EN ty39 rfl (vs := [.int .i64 x.slot, .int .i64 x.b.r, .int .i64 x.b.n, .slice Ax x.val.length kx]) rfl ((hr.to0 hz).elem hp hp1))<|Zm rfl rfl<|Zm rfl rfl<|MP rfl<|MV (fun wz hz => EI Tryz.underlying54 ty39 rfl rfl (len := l.length) (i := i) (by omega) (by omega) rfl)<|cZ e30<|MP rfl<|MV (fun wz hz => EN ty39 rfl (vs := [.int .i64 x.slot, .int .i64 x.b.r, .int .i64 x.b.n, .slice Ay x.val.length ky]) rfl ((hrb.to0 hz).elem hq hp2))<|MO rfl<|OC (ex_call_val gf31 rfl rfl) (same_vt x Ax Ay kx ky ok ok2 _ (hbx.to H2 k0) (hby.to H2 k0))<|fun w3 Hd=>have H3:=H2.callN Hd;OE<|⟨fun hne => H3.pick [] (by decide), ?_⟩
 refine cZ e30<|MO rfl<|Xn rfl<|OE<|⟨fun hne => absurd rfl hne, ?_⟩
 refine cZ e30<|ME<|cR e30<|J4 rfl<|J6<|run_nil (blk_normal ?_)
 refine J2<|Xm rfl<|OV (ex_add rfl rfl (IntWalk.i64_in _ (by omega)))<|Xa rfl<|Xr e30<|run_nil (rnd_normal ?_)
 exact ⟨l.length - (i + 1), by omega, i + 1, _, rfl, (fs (fs (fs (fn (fn (fn (fn (fs (fn (fn (fn (fn (fn (fn (fn (fn (fn (fn (fn (fn (fn (fn (fn (fn (fn (fn (fn (fn (fn (fn f0)))))))))))))))))))))))))))))), by omega, by omega, H3.noRows⟩
 refine Xr e30<|J4 rfl<|J8<|rnd_exit<|blk_exit<|Rq<|Xa rfl<|Xr e30<|J5<|FN1 rfl rfl<|⟨rfl, H1.noRows⟩
set_option maxRecDepth 100000 in
set_option maxHeartbeats 4000000 in
theorem same_vts (A B : Option Addr) (k k2 : Nat) (l : List Vt) (ok ok2 : Nat → Prop) (w0 : World) (hl : Sl (VtR w0 ok) 4 w0 ok A l) (hl2 : Sl (VtR w0 ok2) 4 w0 ok2 B l) (hn : l.length ≤ 1000000000000000000) : Does Tryz.prog 48 #[.slice A l.length k, .slice B l.length k2] w0 (fun r w' => r = .bool true ∧ Hp w0 w' [] []) := by
 refine does_of Tryz.func48 Tryz.ntmps48 rfl<|cR e8 ?_
 have H := Hp.refl w0
 refine Rq<|Xa rfl<|Xr e8<|Rq<|Xm rfl<|Xm rfl<|OC (EC gf71 rfl) (same_vts0 A B k k2 l ok ok2 _ (hl.toV H k0) (hl2.toV H k0) hn)<|fun w1 Hd=>have H1:=H.callN Hd;Xa rfl<|Xr e8<|J5<|FN1 rfl rfl<|⟨rfl, H1.noRows⟩
set_option maxRecDepth 100000 in
set_option maxHeartbeats 4000000 in
theorem same_ens0 (A B : Option Addr) (k k2 : Nat) (l : List En) (ok ok2 : Nat → Prop) (w0 : World) (hl : Sl (EnR w0 ok) 2 w0 ok A l) (hl2 : Sl (EnR w0 ok2) 2 w0 ok2 B l) (hn : l.length ≤ 1000000000000000000) : Does Tryz.prog 73 #[.slice A l.length k, .slice B l.length k2, .func (.func 32) #[] #[]] w0 (fun r w' => r = .bool true ∧ Hp w0 w' [] []) := by
 refine does_of Tryz.func73 Tryz.ntmps73 rfl<|cR e30 ?_
 have H := Hp.refl w0
 obtain ⟨ps, hp, hr, _, h2⟩ := hl
 obtain ⟨qs, hq, hrb, _, h2b⟩ := hl2
 refine Rq<|Xa rfl<|Xr e30<|J1<|Rq<|Xm rfl<|OV (ES Tryz.underlying55 rfl)<|Xm rfl<|OV (ES Tryz.underlying55 rfl)<|cOp e30<|OT0 (ex_neq rfl rfl) (fun h => h rfl)<|Xr e30<|J4 rfl<|J6<|J1<|Rq<|Xa rfl<|Xr e30<|J7<|run_loop (fun nQ lQ w => ∃ (i : Nat) (y : Int), l.length - i = nQ ∧ Fits [some (.slice A l.length k), some (.slice B l.length k2), some (.func (.func 32) #[] #[]), none, none, none, none, some (.int .i64 y), none, none, none, none, none, none, none, none, none, none, none, none, none, none, none, none, none, none, none, none, none, none] lQ ∧ y = (i : Int) ∧ i ≤ l.length ∧ Hp w0 w [] []) (l.length) ?_ ?_
 exact ⟨0, _, rfl, (fs (fs (fs (fn (fn (fn (fn (fs (fn (fn (fn (fn (fn (fn (fn (fn (fn (fn (fn (fn (fn (fn (fn (fn (fn (fn (fn (fn (fn (fn f0)))))))))))))))))))))))))))))), rfl, Nat.zero_le _, H⟩
 rintro nQ lQ w1 ⟨i, y, rfl, hfit, rfl, hi, H1⟩
 obtain ⟨j, rfl⟩ := hfit.open
 refine cR e30 ?_
 clear hfit
 refine J1<|Rq<|Xm rfl<|Xm rfl<|OV (ES Tryz.underlying55 rfl)<|OT (ex_lss rfl rfl) (fun hp16 => ?_) (fun hp16 => ?_)
 have hil : i < l.length := by omega
 obtain ⟨x, hx⟩ := get_of hil
 obtain ⟨p1, hp1, hR⟩ := h2.get hx
 obtain ⟨p2, hp2, hR2⟩ := h2b.get hx
 obtain ⟨a1, ha1⟩ := hr.some_ (by omega)
 obtain ⟨a2, ha2⟩ := hrb.some_ (by omega)
 subst ha1 ha2
 obtain ⟨Ax, kx, rfl, hbx⟩ := hR
 obtain ⟨Ay, ky, rfl, hby⟩ := hR2
 refine Xr e30<|J3 rfl<|J6<|J1<|J7<|J1<|run_mixZ 10 [(true, 0), (true, 1), (true, 2), (true, 3), (true, 4), (true, 5), (true, 6), (true, 7), (true, 8), (false, 9), (false, 10)] H1 [] mixed (by decide) (by kernel_rfl) ?_
 rintro w2 hw2
 have H2 := Hp.drew H1; rw [← hw2] at H2
 refine Zm rfl rfl<|Zm rfl rfl<|Zm rfl rfl<|MP rfl<|MV (fun wz hz => EI Tryz.underlying55 ty41 rfl rfl (len := l.length) (i := i) (by omega) (by omega) rfl)<|cZ e30<|MP rfl<|MV (fun wz hz => EN ty41 rfl (vs := [.int .i64 x.slot, .slice Ax x.val.length kx]) rfl ((hr.to0 hz).elem hp hp1))<|Zm rfl rfl<|Zm rfl rfl<|MP rfl<|MV (fun wz hz => EI Tryz.underlying55 ty41 rfl rfl (len := l.length) (i := i) (by omega) (by omega) rfl)<|cZ e30<|MP rfl<|MV (fun wz hz => EN ty41 rfl (vs := [.int .i64 x.slot, .slice Ay x.val.length ky]) rfl ((hrb.to0 hz).elem hq hp2))<|MO rfl<|OC (ex_call_val gf32 rfl rfl) (same_en x Ax Ay kx ky ok ok2 _ (hbx.to H2 k0) (hby.to H2 k0))<|fun w3 Hd=>have H3:=H2.callN Hd;OE<|⟨fun hne => H3.pick [] (by decide), ?_⟩
 refine cZ e30<|MO rfl<|Xn rfl<|OE<|⟨fun hne => absurd rfl hne, ?_⟩
 refine cZ e30<|ME<|cR e30<|J4 rfl<|J6<|run_nil (blk_normal ?_)
 refine J2<|Xm rfl<|OV (ex_add rfl rfl (IntWalk.i64_in _ (by omega)))<|Xa rfl<|Xr e30<|run_nil (rnd_normal ?_)
 exact ⟨l.length - (i + 1), by omega, i + 1, _, rfl, (fs (fs (fs (fn (fn (fn (fn (fs (fn (fn (fn (fn (fn (fn (fn (fn (fn (fn (fn (fn (fn (fn (fn (fn (fn (fn (fn (fn (fn (fn f0)))))))))))))))))))))))))))))), by omega, by omega, H3.noRows⟩
 refine Xr e30<|J4 rfl<|J8<|rnd_exit<|blk_exit<|Rq<|Xa rfl<|Xr e30<|J5<|FN1 rfl rfl<|⟨rfl, H1.noRows⟩
set_option maxRecDepth 100000 in
set_option maxHeartbeats 4000000 in
theorem same_ens (A B : Option Addr) (k k2 : Nat) (l : List En) (ok ok2 : Nat → Prop) (w0 : World) (hl : Sl (EnR w0 ok) 2 w0 ok A l) (hl2 : Sl (EnR w0 ok2) 2 w0 ok2 B l) (hn : l.length ≤ 1000000000000000000) : Does Tryz.prog 50 #[.slice A l.length k, .slice B l.length k2] w0 (fun r w' => r = .bool true ∧ Hp w0 w' [] []) := by
 refine does_of Tryz.func50 Tryz.ntmps50 rfl<|cR e8 ?_
 have H := Hp.refl w0
 refine Rq<|Xa rfl<|Xr e8<|Rq<|Xm rfl<|Xm rfl<|OC (EC gf73 rfl) (same_ens0 A B k k2 l ok ok2 _ (hl.toE H k0) (hl2.toE H k0) hn)<|fun w1 Hd=>have H1:=H.callN Hd;Xa rfl<|Xr e8<|J5<|FN1 rfl rfl<|⟨rfl, H1.noRows⟩
set_option maxRecDepth 100000 in
set_option maxHeartbeats 4000000 in
theorem same_sv (s : Sv) (A1 : Option Addr) (k1 : Nat) (A2 : Option Addr) (k2 : Nat) (A3 : Option Addr) (k3 : Nat) (C1 : Option Addr) (q1 : Nat) (C2 : Option Addr) (q2 : Nat) (C3 : Option Addr) (q3 : Nat) (ok ok2 : Nat → Prop) (w0 : World) (h1 : Sl (VtR w0 ok) 4 w0 ok A1 s.votes) (h2 : Bs w0 ok A2 s.image) (h3 : Sl (EnR w0 ok) 2 w0 ok A3 s.entries) (u1 : Sl (VtR w0 ok2) 4 w0 ok2 C1 s.votes) (u2 : Bs w0 ok2 C2 s.image) (u3 : Sl (EnR w0 ok2) 2 w0 ok2 C3 s.entries) (hv : s.votes.length ≤ 1000000000000000000) (he : s.entries.length ≤ 1000000000000000000) : Does Tryz.prog 28 #[.agg [.int .i64 s.p.r, .int .i64 s.p.n, .slice A1 s.votes.length k1, .int .i64 s.index, .slice A2 s.image.length k2, .slice A3 s.entries.length k3].toArray, .agg [.int .i64 s.p.r, .int .i64 s.p.n, .slice C1 s.votes.length q1, .int .i64 s.index, .slice C2 s.image.length q2, .slice C3 s.entries.length q3].toArray] w0 (fun r w' => r = .bool true ∧ Hp w0 w' [] []) := by
 refine does_of Tryz.func28 Tryz.ntmps28 rfl<|cR e38 ?_
 have H := Hp.refl w0
 refine Rq<|ops_box rfl rfl H<|fun w1 g1 H1 hg1=>ops_box rfl rfl H1<|fun w2 g2 H2 hg2=>Xa rfl<|Xr e38<|Rq<|Xf fl57_0 rfl<|OV (EN ty36 rfl (vs := [.int .i64 s.p.r, .int .i64 s.p.n]) rfl (H2.cellsR (i := 0) rfl rfl))<|Xf fl57_0 rfl<|OV (EN ty36 rfl (vs := [.int .i64 s.p.r, .int .i64 s.p.n]) rfl (H2.cellsR (i := 1) rfl rfl))<|cOp e38<|OT1 (ex_eql_bal rfl rfl) (⟨rfl, rfl⟩)<|Xm rfl<|cOp e38<|OY rfl<|Xf fl57_1 rfl<|OY rfl<|OV (EL ty54 rfl (H2.cell (i := 0) rfl rfl))<|cOp e38<|OY rfl<|Xf fl57_1 rfl<|OY rfl<|OV (EL ty54 rfl (H2.cell (i := 1) rfl rfl))<|cOp e38<|OY rfl<|OC (EC gf48 rfl) (same_vts A1 C1 k1 q1 s.votes ok ok2 _ (h1.toV H2 k0) (u1.toV H2 k0) hv)<|fun w3 Hd=>have H3:=H2.callN Hd;Xt rfl rfl<|Xm rfl<|cOp e38<|OY rfl<|Xf fl57_2 rfl<|OY rfl<|OV (EL ty3 rfl (H3.cell (i := 0) rfl rfl)) ?_
 refine cOp e38<|OY rfl<|Xf fl57_2 rfl<|OY rfl<|OV (EL ty3 rfl (H3.cell (i := 1) rfl rfl))<|cOp e38<|OY rfl<|OT1 (ex_eql rfl rfl) (rfl)<|Xt rfl rfl<|Xm rfl<|cOp e38<|OY rfl<|Xf fl57_3 rfl<|OY rfl<|OV (EL ty37 rfl (H3.cell (i := 0) rfl rfl))<|cOp e38<|OY rfl<|Xf fl57_3 rfl<|OY rfl<|OV (EL ty37 rfl (H3.cell (i := 1) rfl rfl))<|cOp e38<|OY rfl ?_
 have hby := bytes_any A2 C2 s.image s.image k2 q2 _ (h2.1.to0 H3) (u2.1.to0 H3) (by have := h2.2.2; omega) (by have := u2.2.2; omega)
 rw [decide_eq_true rfl] at hby
 refine OC (EC gf49 rfl) hby<|fun w4 Hd=>have H4:=H3.callN Hd;Xt rfl rfl<|Xm rfl<|cOp e38<|OY rfl<|Xf fl57_4 rfl<|OY rfl<|OV (EL ty55 rfl (H4.cell (i := 0) rfl rfl))<|cOp e38<|OY rfl<|Xf fl57_4 rfl<|OY rfl<|OV (EL ty55 rfl (H4.cell (i := 1) rfl rfl))<|cOp e38<|OY rfl<|OC (EC gf50 rfl) (same_ens A3 C3 k3 q3 s.entries ok ok2 _ (h3.toE H4 k0) (u3.toE H4 k0) he)<|fun w5 Hd=>have H5:=H4.callN Hd;Xt rfl rfl<|Xa rfl<|Xr e38<|J5<|FN1 rfl rfl<|⟨rfl, H5.noRows⟩
set_option maxRecDepth 100000 in
set_option maxHeartbeats 4000000 in
theorem same_svs (A B : Option Addr) (k kb : Nat) (l : List Sv) (ok ok2 : Nat → Prop) (w0 : World) (hl : Sl (SvR w0 ok) 6 w0 ok A l) (hl2 : Sl (SvR w0 ok2) 6 w0 ok2 B l) (hn : l.length ≤ 1000000000000000000) (hfew : ∀ x ∈ l, x.votes.length ≤ 1000000000000000000 ∧ x.entries.length ≤ 1000000000000000000) : Does Tryz.prog 29 #[.slice A l.length k, .slice B l.length kb, .func (.func 28) #[] #[]] w0 (fun r w' => r = .bool true ∧ Hp w0 w' [] []) := by
 refine does_of Tryz.func29 Tryz.ntmps29 rfl<|cR e30 ?_
 have H := Hp.refl w0
 obtain ⟨ps, hp, hr, _, h2⟩ := hl
 obtain ⟨qs, hq, hrb, _, h2b⟩ := hl2
 refine Rq<|Xa rfl<|Xr e30<|J1<|Rq<|Xm rfl<|OV (ES Tryz.underlying23 rfl)<|Xm rfl<|OV (ES Tryz.underlying23 rfl)<|cOp e30<|OT0 (ex_neq rfl rfl) (fun h => h rfl)<|Xr e30<|J4 rfl<|J6<|J1<|Rq<|Xa rfl<|Xr e30<|J7<|run_loop (fun nQ lQ w => ∃ (i : Nat) (y : Int), l.length - i = nQ ∧ Fits [some (.slice A l.length k), some (.slice B l.length kb), some (.func (.func 28) #[] #[]), none, none, none, none, some (.int .i64 y), none, none, none, none, none, none, none, none, none, none, none, none, none, none, none, none, none, none, none, none, none, none] lQ ∧ y = (i : Int) ∧ i ≤ l.length ∧ Hp w0 w [] []) (l.length) ?_ ?_
 exact ⟨0, _, rfl, (fs (fs (fs (fn (fn (fn (fn (fs (fn (fn (fn (fn (fn (fn (fn (fn (fn (fn (fn (fn (fn (fn (fn (fn (fn (fn (fn (fn (fn (fn f0)))))))))))))))))))))))))))))), rfl, Nat.zero_le _, H⟩
 rintro nQ lQ w1 ⟨i, y, rfl, hfit, rfl, hi, H1⟩
 obtain ⟨j, rfl⟩ := hfit.open
 refine cR e30 ?_
 clear hfit
 refine J1<|Rq<|Xm rfl<|Xm rfl<|OV (ES Tryz.underlying23 rfl)<|OT (ex_lss rfl rfl) (fun hp16 => ?_) (fun hp16 => ?_)
 have hil : i < l.length := by omega
 obtain ⟨x, hx⟩ := get_of hil
 obtain ⟨p1, hp1, hR⟩ := h2.get hx
 obtain ⟨p2, hp2, hR2⟩ := h2b.get hx
 obtain ⟨a1, ha1⟩ := hr.some_ (by omega)
 obtain ⟨a2, ha2⟩ := hrb.some_ (by omega)
 subst ha1 ha2
 obtain ⟨A1, k1, A2, k2, A3, k3, rfl, h1, h3, h4⟩ := hR
 obtain ⟨C1, q1, C2, q2, C3, q3, rfl, u1, u3, u4⟩ := hR2
 have hfx := hfew x (mem_of hx)
 refine Xr e30<|J3 rfl<|J6<|J1<|J7<|J1<|run_mixZ 10 [(true, 0), (true, 1), (true, 2), (true, 3), (true, 4), (true, 5), (true, 6), (true, 7), (true, 8), (false, 9), (false, 10)] H1 [] mixed (by decide) (by kernel_rfl) ?_
 rintro w2 hw2
 have H2 := Hp.drew H1; rw [← hw2] at H2
 refine Zm rfl rfl<|Zm rfl rfl<|Zm rfl rfl<|MP rfl<|MV (fun wz hz => EI Tryz.underlying23 ty57 rfl rfl (len := l.length) (i := i) (by omega) (by omega) rfl)<|cZ e30<|MP rfl<|MV (fun wz hz => EN ty57 rfl (vs := [.int .i64 x.p.r, .int .i64 x.p.n, .slice A1 x.votes.length k1, .int .i64 x.index, .slice A2 x.image.length k2, .slice A3 x.entries.length k3]) rfl ((hr.to0 hz).elem hp hp1))<|Zm rfl rfl<|Zm rfl rfl<|MP rfl<|MV (fun wz hz => EI Tryz.underlying23 ty57 rfl rfl (len := l.length) (i := i) (by omega) (by omega) rfl)<|cZ e30<|MP rfl<|MV (fun wz hz => EN ty57 rfl (vs := [.int .i64 x.p.r, .int .i64 x.p.n, .slice C1 x.votes.length q1, .int .i64 x.index, .slice C2 x.image.length q2, .slice C3 x.entries.length q3]) rfl ((hrb.to0 hz).elem hq hp2))<|MO rfl<|OC (ex_call_val gf28 rfl rfl) (same_sv x A1 k1 A2 k2 A3 k3 C1 q1 C2 q2 C3 q3 ok ok2 _ (h1.toV H2 k0) (h3.to H2 k0) (h4.toE H2 k0) (u1.toV H2 k0) (u3.to H2 k0) (u4.toE H2 k0) hfx.1 hfx.2)<|fun w3 Hd=>have H3:=H2.callN Hd;OE<|⟨fun hne => H3.pick [] (by decide), ?_⟩
 refine cZ e30<|MO rfl<|Xn rfl<|OE<|⟨fun hne => absurd rfl hne, ?_⟩
 refine cZ e30<|ME<|cR e30<|J4 rfl<|J6<|run_nil (blk_normal ?_)
 refine J2<|Xm rfl<|OV (ex_add rfl rfl (IntWalk.i64_in _ (by omega)))<|Xa rfl<|Xr e30<|run_nil (rnd_normal ?_)
 exact ⟨l.length - (i + 1), by omega, i + 1, _, rfl, (fs (fs (fs (fn (fn (fn (fn (fs (fn (fn (fn (fn (fn (fn (fn (fn (fn (fn (fn (fn (fn (fn (fn (fn (fn (fn (fn (fn (fn (fn f0)))))))))))))))))))))))))))))), by omega, by omega, H3.noRows⟩
 refine Xr e30<|J4 rfl<|J8<|rnd_exit<|blk_exit<|Rq<|Xa rfl<|Xr e30<|J5<|FN1 rfl rfl<|⟨rfl, H1.noRows⟩
set_option maxRecDepth 100000 in
set_option maxHeartbeats 4000000 in
theorem same_bo (b : Bo) (A1 : Option Addr) (k1 : Nat) (A2 : Option Addr) (k2 : Nat) (A3 : Option Addr) (k3 : Nat) (C1 : Option Addr) (q1 : Nat) (C2 : Option Addr) (q2 : Nat) (C3 : Option Addr) (q3 : Nat) (ok ok2 : Nat → Prop) (w0 : World) (h1 : Sl (SvR w0 ok) 6 w0 ok A1 b.groups) (h2 : Sl RtR 4 w0 ok A2 b.rights) (h3 : Sl MkR 7 w0 ok A3 b.last) (u1 : Sl (SvR w0 ok2) 6 w0 ok2 C1 b.groups) (u2 : Sl RtR 4 w0 ok2 C2 b.rights) (u3 : Sl MkR 7 w0 ok2 C3 b.last) (n1 : b.groups.length ≤ 1000000000000000000) (n2 : b.rights.length ≤ 1000000000000000000) (n3 : b.last.length ≤ 1000000000000000000) (hfew : ∀ x ∈ b.groups, x.votes.length ≤ 1000000000000000000 ∧ x.entries.length ≤ 1000000000000000000) : Does Tryz.prog 13 #[.agg [.slice A1 b.groups.length k1, .slice A2 b.rights.length k2, .slice A3 b.last.length k3].toArray, .agg [.slice C1 b.groups.length q1, .slice C2 b.rights.length q2, .slice C3 b.last.length q3].toArray] w0 (fun r w' => r = .bool true ∧ Hp w0 w' [] []) := by
 refine does_of Tryz.func13 Tryz.ntmps13 rfl<|cR e24 ?_
 have H := Hp.refl w0
 refine Rq<|ops_box rfl rfl H<|fun w1 g1 H1 hg1=>ops_box rfl rfl H1<|fun w2 g2 H2 hg2=>Xa rfl<|Xr e24<|Rq<|Xf fl27_0 rfl<|OV (EL ty23 rfl (H2.cell (i := 0) rfl rfl))<|Xf fl27_0 rfl<|OV (EL ty23 rfl (H2.cell (i := 1) rfl rfl))<|cOp e24<|OC (EC gf29 rfl) (same_svs A1 C1 k1 q1 b.groups ok ok2 _ (h1.toS H2 k0) (u1.toS H2 k0) n1 hfew)<|fun w3 Hd=>have H3:=H2.callN Hd;Xm rfl<|cOp e24<|OY rfl<|Xf fl27_1 rfl<|OY rfl<|OV (EL ty24 rfl (H3.cell (i := 0) rfl rfl))<|cOp e24<|OY rfl<|Xf fl27_1 rfl<|OY rfl<|OV (EL ty24 rfl (H3.cell (i := 1) rfl rfl))<|cOp e24<|OY rfl<|OC (EC gf27 rfl) (plainR A2 C2 k2 q2 b.rights ok ok2 _ (h2.toR H3 k0) (u2.toR H3 k0) n2)<|fun w4 Hd=>have H4:=H3.callN Hd;Xt rfl rfl<|Xm rfl<|cOp e24<|OY rfl<|Xf fl27_2 rfl ?_
 refine OY rfl<|OV (EL ty25 rfl (H4.cell (i := 0) rfl rfl))<|cOp e24<|OY rfl<|Xf fl27_2 rfl<|OY rfl<|OV (EL ty25 rfl (H4.cell (i := 1) rfl rfl))<|cOp e24<|OY rfl<|OC (EC gf30 rfl) (plainM A3 C3 k3 q3 b.last ok ok2 _ (h3.toM H4 k0) (u3.toM H4 k0) n3)<|fun w5 Hd=>have H5:=H4.callN Hd;Xt rfl rfl<|Xa rfl<|Xr e24<|J5<|FN1 rfl rfl<|⟨rfl, H5.noRows⟩
set_option maxRecDepth 100000 in
set_option maxHeartbeats 4000000 in
theorem alike_r (l : List Sv) (rs : List Rt) (A1 : Option Addr) (k1 : Nat) (A2 : Option Addr) (k2 : Nat) (A3 : Option Addr) (m3 k3 : Nat) (C1 : Option Addr) (q1 : Nat) (C2 : Option Addr) (q2 : Nat) (C3 : Option Addr) (m4 q3 : Nat) (ok ok2 : Nat → Prop) (w0 : World) (h1 : Sl (SvR w0 ok) 6 w0 ok A1 l) (h2 : Sl RtR 4 w0 ok A2 rs) (u1 : Sl (SvR w0 ok2) 6 w0 ok2 C1 l) (u2 : Sl RtR 4 w0 ok2 C2 rs) (n1 : l.length ≤ 1000000000000000000) (n2 : rs.length ≤ 1000000000000000000) (hfew : ∀ x ∈ l, x.votes.length ≤ 1000000000000000000 ∧ x.entries.length ≤ 1000000000000000000) : Does Tryz.prog 10 #[.agg [.slice A1 l.length k1, .slice A2 rs.length k2, .slice A3 m3 k3].toArray, .agg [.slice C1 l.length q1, .slice C2 rs.length q2, .slice C3 m4 q3].toArray] w0 (fun r w' => r = .bool true ∧ Hp w0 w' [] []) := by
 refine does_of Tryz.func10 Tryz.ntmps10 rfl<|cR e40 ?_
 have H := Hp.refl w0
 obtain ⟨ps, hp, hr, _, hx2⟩ := id h1
 obtain ⟨qs, hq, hrb, _, hx2b⟩ := id u1
 refine Rq<|ops_box rfl rfl H<|fun w1 ga H1 _=>ops_box rfl rfl H1<|fun w2 gb H2 _=>Xa rfl<|Xr e40<|J1<|Rq<|Xf fl27_0 rfl<|OV (EL ty23 rfl (H2.cell (i := 0) rfl rfl))<|OV (ES Tryz.underlying23 rfl)<|Xf fl27_0 rfl<|cOp e40<|OV (EL ty23 rfl (H2.cell (i := 1) rfl rfl))<|OV (ES Tryz.underlying23 rfl)<|OT0 (ex_neq rfl rfl) (fun h => h rfl)<|Xm rfl<|cOp e40<|OY rfl<|Xf fl27_1 rfl<|OY rfl<|OV (EL ty24 rfl (H2.cell (i := 0) rfl rfl))<|cOp e40<|OY rfl<|Xf fl27_1 rfl<|OY rfl<|OV (EL ty24 rfl (H2.cell (i := 1) rfl rfl))<|cOp e40<|OY rfl<|OC (EC gf27 rfl) (plainR A2 C2 k2 q2 rs ok ok2 _ (h2.toR H2 k0) (u2.toR H2 k0) n2)<|fun w3 Hd=>have H3:=H2.callN Hd;OY rfl<|Xn rfl<|Xu rfl rfl<|OE ?_
 refine cR e40<|J4 rfl<|J6<|J1<|Rq<|Xa rfl<|Xr e40<|J7<|run_loop (fun nQ lQ w => ∃ (i : Nat) (y : Int), l.length - i = nQ ∧ Fits [none, none, some (.pointer (some ⟨ga, 0, none⟩)), some (.pointer (some ⟨gb, 0, none⟩)), none, some (.int .i64 y), none, none, none, none, none, none, none, none, none, none, none, none, none, none, none, none, none, none, none, none, none, none, none, none, none, none, none, none, none, none, none, none, none, none] lQ ∧ y = (i : Int) ∧ i ≤ l.length ∧ Hp w0 w [] [((some ga, 27, [.slice A1 l.length k1, .slice A2 rs.length k2, .slice A3 m3 k3]) : Ent), (some gb, 27, [.slice C1 l.length q1, .slice C2 rs.length q2, .slice C3 m4 q3])]) (l.length) ?_ ?_
 exact ⟨0, _, rfl, (fn (fn (fs (fs (fn (fs (fn (fn (fn (fn (fn (fn (fn (fn (fn (fn (fn (fn (fn (fn (fn (fn (fn (fn (fn (fn (fn (fn (fn (fn (fn (fn (fn (fn (fn (fn (fn (fn (fn (fn f0)))))))))))))))))))))))))))))))))))))))), rfl, Nat.zero_le _, H3⟩
 rintro nQ lQ w4 ⟨i, y, rfl, hfit, rfl, hi, H4⟩
 obtain ⟨j, rfl⟩ := hfit.open
 refine cR e40 ?_
 clear hfit
 refine J1<|Rq<|Xm rfl<|Xf fl27_0 rfl<|OV (EL ty23 rfl (H4.cell (i := 0) rfl rfl))<|OV (ES Tryz.underlying23 rfl)<|cOp e40<|OT (ex_lss rfl rfl) (fun hp25 => ?_) (fun hp25 => ?_)
 have hil : i < l.length := by omega
 obtain ⟨x, hx⟩ := get_of hil
 obtain ⟨p1, hp1, hR⟩ := hx2.get hx
 obtain ⟨p2, hp2, hR2⟩ := hx2b.get hx
 obtain ⟨a1, ha1⟩ := hr.some_ (by omega)
 obtain ⟨a2, ha2⟩ := hrb.some_ (by omega)
 subst ha1 ha2
 have hfx := hfew x (mem_of hx)
 obtain ⟨D1, e1, D2, e2, D3, e3, rfl, h3, h4, h5⟩ := hR
 obtain ⟨E1, f1, E2, f2, E3, f3, rfl, u3, u4, u5⟩ := hR2
 refine Xr e40<|J3 rfl<|J6<|J1<|J7<|J1<|run_mixZ 11 [(true, 0), (true, 1), (true, 2), (true, 3), (true, 4), (true, 5), (true, 6), (true, 7), (true, 8), (true, 9), (false, 10), (false, 11)] H4 [0, 1] mixed (by decide) (by kernel_rfl) ?_
 rintro w5 hw5
 have H5 := Hp.drew H4; rw [← hw5] at H5
 refine Zf rfl fl27_0 rfl<|MP rfl<|MV (fun wz hz => EL ty23 rfl (hz.cell (i := 0) rfl rfl))<|Zm rfl rfl<|MP rfl<|MV (fun wz hz => EI Tryz.underlying23 ty57 rfl rfl (len := l.length) (i := i) (by omega) (by omega) rfl)<|cZ e40<|MP rfl<|MV (fun wz hz => EN ty57 rfl (vs := [.int .i64 x.p.r, .int .i64 x.p.n, .slice D1 x.votes.length e1, .int .i64 x.index, .slice D2 x.image.length e2, .slice D3 x.entries.length e3]) rfl ((hr.to0 hz).elem hp hp1))<|Zf rfl fl27_0 rfl<|MP rfl<|MV (fun wz hz => EL ty23 rfl (hz.cell (i := 1) rfl rfl))<|Zm rfl rfl<|cZ e40<|MP rfl<|MV (fun wz hz => EI Tryz.underlying23 ty57 rfl rfl (len := l.length) (i := i) (by omega) (by omega) rfl)<|MP rfl<|MV (fun wz hz => EN ty57 rfl (vs := [.int .i64 x.p.r, .int .i64 x.p.n, .slice E1 x.votes.length f1, .int .i64 x.index, .slice E2 x.image.length f2, .slice E3 x.entries.length f3]) rfl ((hrb.to0 hz).elem hq hp2))<|MO rfl<|OC (EC gf28 rfl) (same_sv x D1 e1 D2 e2 D3 e3 E1 f1 E2 f2 E3 f3 ok ok2 _ (h3.toV H5 k0) (h4.to H5 k0) (h5.toE H5 k0) (u3.toV H5 k0) (u4.to H5 k0) (u5.toE H5 k0) hfx.1 hfx.2)<|fun w6 Hd=>have H6:=H5.callN Hd;OE<|⟨fun hne => H6.pick [0, 1] (by decide), ?_⟩
 refine cZ e40<|MO rfl<|Xn rfl<|OE<|⟨fun hne => absurd rfl hne, ?_⟩
 refine cZ e40<|ME<|cR e40<|J4 rfl<|J6<|run_nil (blk_normal ?_)
 refine J2<|Xm rfl<|OV (ex_add rfl rfl (IntWalk.i64_in _ (by omega)))<|Xa rfl<|Xr e40<|run_nil (rnd_normal ?_)
 exact ⟨l.length - (i + 1), by omega, i + 1, _, rfl, (fn (fn (fs (fs (fn (fs (fn (fn (fn (fn (fn (fn (fn (fn (fn (fn (fn (fn (fn (fn (fn (fn (fn (fn (fn (fn (fn (fn (fn (fn (fn (fn (fn (fn (fn (fn (fn (fn (fn (fn f0)))))))))))))))))))))))))))))))))))))))), by omega, by omega, H6.pick [0, 1] (by decide)⟩
 refine Xr e40<|J4 rfl<|J8<|rnd_exit<|blk_exit<|Rq<|Xa rfl<|Xr e40<|J5<|FN1 rfl rfl<|⟨rfl, H4.noRows⟩
set_option maxRecDepth 100000 in
set_option maxHeartbeats 4000000 in
theorem same_nt (n : Nt) (B1 : Option Addr) (j1 : Nat) (B2 : Option Addr) (j2 : Nat) (E1 : Option Addr) (f1 : Nat) (E2 : Option Addr) (f2 : Nat) (ok ok2 : Nat → Prop) (w0 : World) (h1 : Bs w0 ok B1 n.vote.val) (h2 : Bs w0 ok B2 n.entry.val) (u1 : Bs w0 ok2 E1 n.vote.val) (u2 : Bs w0 ok2 E2 n.entry.val) : Does Tryz.prog 15 #[.agg [.int .i64 n.kind, .int .i64 n.group, .int .i64 n.b.r, .int .i64 n.b.n, .int .i64 n.vote.slot, .int .i64 n.vote.b.r, .int .i64 n.vote.b.n, .slice B1 n.vote.val.length j1, .int .i64 n.entry.slot, .slice B2 n.entry.val.length j2, .int .i64 n.right.g, strV n.right.key, .int .i64 n.right.lease, .int .i64 n.right.net, .int .i64 n.client, .int .i64 n.seq].toArray, .agg [.int .i64 n.kind, .int .i64 n.group, .int .i64 n.b.r, .int .i64 n.b.n, .int .i64 n.vote.slot, .int .i64 n.vote.b.r, .int .i64 n.vote.b.n, .slice E1 n.vote.val.length f1, .int .i64 n.entry.slot, .slice E2 n.entry.val.length f2, .int .i64 n.right.g, strV n.right.key, .int .i64 n.right.lease, .int .i64 n.right.net, .int .i64 n.client, .int .i64 n.seq].toArray] w0 (fun r w' => r = .bool true ∧ Hp w0 w' [] []) := by
 refine does_of Tryz.func15 Tryz.ntmps15 rfl<|cR e59 ?_
 have H := Hp.refl w0
 refine Rq<|ops_box rfl rfl H<|fun w1 g1 H1 hg1=>ops_box rfl rfl H1<|fun w2 g2 H2 hg2=>Xa rfl<|Xr e59<|Rq<|Xf fl45_0 rfl<|OV (EL ty3 rfl (H2.cell (i := 0) rfl rfl))<|Xf fl45_0 rfl<|OV (EL ty3 rfl (H2.cell (i := 1) rfl rfl))<|cOp e59<|OT1 (ex_eql rfl rfl) (rfl)<|Xm rfl<|cOp e59<|OY rfl<|Xf fl45_1 rfl<|OY rfl<|OV (EL ty3 rfl (H2.cell (i := 0) rfl rfl))<|cOp e59<|OY rfl<|Xf fl45_1 rfl<|OY rfl<|OV (EL ty3 rfl (H2.cell (i := 1) rfl rfl))<|cOp e59<|OY rfl<|OT1 (ex_eql rfl rfl) (rfl)<|Xt rfl rfl<|Xm rfl<|cOp e59<|OY rfl<|Xf fl45_2 rfl<|OY rfl<|OV (EN ty36 rfl (vs := [.int .i64 n.b.r, .int .i64 n.b.n]) rfl (H2.cellsR (i := 0) rfl rfl))<|cOp e59<|OY rfl ?_
 refine Xf fl45_2 rfl<|OY rfl<|OV (EN ty36 rfl (vs := [.int .i64 n.b.r, .int .i64 n.b.n]) rfl (H2.cellsR (i := 1) rfl rfl))<|cOp e59<|OY rfl<|OT1 (ex_eql_bal rfl rfl) (⟨rfl, rfl⟩)<|Xt rfl rfl<|Xm rfl<|cOp e59<|OY rfl<|Xf fl45_3 rfl<|OY rfl<|OV (EN ty39 rfl (vs := [.int .i64 n.vote.slot, .int .i64 n.vote.b.r, .int .i64 n.vote.b.n, .slice B1 n.vote.val.length j1]) rfl (H2.cellsR (i := 0) rfl rfl))<|cOp e59<|OY rfl<|Xf fl45_3 rfl<|OY rfl<|OV (EN ty39 rfl (vs := [.int .i64 n.vote.slot, .int .i64 n.vote.b.r, .int .i64 n.vote.b.n, .slice E1 n.vote.val.length f1]) rfl (H2.cellsR (i := 1) rfl rfl))<|cOp e59<|OY rfl<|OC (EC gf31 rfl) (same_vt n.vote B1 E1 j1 f1 ok ok2 _ (h1.to H2 k0) (u1.to H2 k0))<|fun w3 Hd=>have H3:=H2.callN Hd;Xt rfl rfl<|Xm rfl<|cOp e59<|OY rfl<|Xf fl45_4 rfl<|OY rfl<|OV (EN ty41 rfl (vs := [.int .i64 n.entry.slot, .slice B2 n.entry.val.length j2]) rfl (H3.cellsR (i := 0) rfl rfl))<|cOp e59<|OY rfl<|Xf fl45_4 rfl<|OY rfl<|OV (EN ty41 rfl (vs := [.int .i64 n.entry.slot, .slice E2 n.entry.val.length f2]) rfl (H3.cellsR (i := 1) rfl rfl))<|cOp e59<|OY rfl<|OC (EC gf32 rfl) (same_en n.entry B2 E2 j2 f2 ok ok2 _ (h2.to H3 k0) (u2.to H3 k0))<|fun w4 Hd=>have H4:=H3.callN Hd;Xt rfl rfl ?_
 refine Xm rfl<|cOp e59<|OY rfl<|Xf fl45_5 rfl<|OY rfl<|OV (EN ty43 rfl (vs := [.int .i64 n.right.g, strV n.right.key, .int .i64 n.right.lease, .int .i64 n.right.net]) rfl (H4.cellsR (i := 0) rfl rfl))<|cOp e59<|OY rfl<|Xf fl45_5 rfl<|OY rfl<|OV (EN ty43 rfl (vs := [.int .i64 n.right.g, strV n.right.key, .int .i64 n.right.lease, .int .i64 n.right.net]) rfl (H4.cellsR (i := 1) rfl rfl))<|cOp e59<|OY rfl<|OV (ex_eql_rt rfl rfl)<|Xt rfl rfl<|Xm rfl<|cOp e59<|OY rfl<|Xf fl45_6 rfl<|OY rfl<|OV (EL ty3 rfl (H4.cell (i := 0) rfl rfl))<|cOp e59<|OY rfl<|Xf fl45_6 rfl<|OY rfl<|OV (EL ty3 rfl (H4.cell (i := 1) rfl rfl))<|cOp e59<|OY rfl<|OT1 (ex_eql rfl rfl) (rfl)<|Xt rfl rfl<|Xm rfl<|cOp e59<|OY rfl<|Xf fl45_7 rfl<|OY rfl<|OV (EL ty3 rfl (H4.cell (i := 0) rfl rfl))<|cOp e59<|OY rfl<|Xf fl45_7 rfl<|OY rfl ?_
 refine OV (EL ty3 rfl (H4.cell (i := 1) rfl rfl))<|cOp e59<|OY rfl<|OT1 (ex_eql rfl rfl) (rfl)<|Xt rfl rfl<|Xa rfl<|Xr e59<|J5<|FN1 rfl rfl<|⟨rfl, H4.noRows⟩
set_option maxRecDepth 100000 in
set_option maxHeartbeats 4000000 in
theorem same_nts (A B : Option Addr) (k k2 : Nat) (l : List Nt) (ok ok2 : Nat → Prop) (w0 : World) (hl : Sl (NtR w0 ok) 16 w0 ok A l) (hl2 : Sl (NtR w0 ok2) 16 w0 ok2 B l) (hn : l.length ≤ 1000000000000000000) : Does Tryz.prog 14 #[.slice A l.length k, .slice B l.length k2, .func (.func 15) #[] #[]] w0 (fun r w' => r = .bool true ∧ Hp w0 w' [] []) := by
 refine does_of Tryz.func14 Tryz.ntmps14 rfl<|cR e30 ?_
 have H := Hp.refl w0
 obtain ⟨ps, hp, hr, _, h2⟩ := hl
 obtain ⟨qs, hq, hrb, _, h2b⟩ := hl2
 refine Rq<|Xa rfl<|Xr e30<|J1<|Rq<|Xm rfl<|OV (ES Tryz.underlying22 rfl)<|Xm rfl<|OV (ES Tryz.underlying22 rfl)<|cOp e30<|OT0 (ex_neq rfl rfl) (fun h => h rfl)<|Xr e30<|J4 rfl<|J6<|J1<|Rq<|Xa rfl<|Xr e30<|J7<|run_loop (fun nQ lQ w => ∃ (i : Nat) (y : Int), l.length - i = nQ ∧ Fits [some (.slice A l.length k), some (.slice B l.length k2), some (.func (.func 15) #[] #[]), none, none, none, none, some (.int .i64 y), none, none, none, none, none, none, none, none, none, none, none, none, none, none, none, none, none, none, none, none, none, none] lQ ∧ y = (i : Int) ∧ i ≤ l.length ∧ Hp w0 w [] []) (l.length) ?_ ?_
 exact ⟨0, _, rfl, (fs (fs (fs (fn (fn (fn (fn (fs (fn (fn (fn (fn (fn (fn (fn (fn (fn (fn (fn (fn (fn (fn (fn (fn (fn (fn (fn (fn (fn (fn f0)))))))))))))))))))))))))))))), rfl, Nat.zero_le _, H⟩
 rintro nQ lQ w1 ⟨i, y, rfl, hfit, rfl, hi, H1⟩
 obtain ⟨j, rfl⟩ := hfit.open
 refine cR e30 ?_
 clear hfit
 refine J1<|Rq<|Xm rfl<|Xm rfl<|OV (ES Tryz.underlying22 rfl)<|OT (ex_lss rfl rfl) (fun hp16 => ?_) (fun hp16 => ?_)
 have hil : i < l.length := by omega
 obtain ⟨x, hx⟩ := get_of hil
 obtain ⟨p1, hp1, hR⟩ := h2.get hx
 obtain ⟨p2, hp2, hR2⟩ := h2b.get hx
 obtain ⟨a1, ha1⟩ := hr.some_ (by omega)
 obtain ⟨a2, ha2⟩ := hrb.some_ (by omega)
 subst ha1 ha2
 obtain ⟨B1, j1, B2, j2, rfl, h1, h3⟩ := hR
 obtain ⟨E1, f1, E2, f2, rfl, u1, u3⟩ := hR2
 refine Xr e30<|J3 rfl<|J6<|J1<|J7<|J1<|run_mixZ 10 [(true, 0), (true, 1), (true, 2), (true, 3), (true, 4), (true, 5), (true, 6), (true, 7), (true, 8), (false, 9), (false, 10)] H1 [] mixed (by decide) (by kernel_rfl) ?_
 rintro w2 hw2
 have H2 := Hp.drew H1; rw [← hw2] at H2
 refine Zm rfl rfl<|Zm rfl rfl<|Zm rfl rfl<|MP rfl<|MV (fun wz hz => EI Tryz.underlying22 ty45 rfl rfl (len := l.length) (i := i) (by omega) (by omega) rfl)<|cZ e30<|MP rfl<|MV (fun wz hz => EN ty45 rfl (vs := [.int .i64 x.kind, .int .i64 x.group, .int .i64 x.b.r, .int .i64 x.b.n, .int .i64 x.vote.slot, .int .i64 x.vote.b.r, .int .i64 x.vote.b.n, .slice B1 x.vote.val.length j1, .int .i64 x.entry.slot, .slice B2 x.entry.val.length j2, .int .i64 x.right.g, strV x.right.key, .int .i64 x.right.lease, .int .i64 x.right.net, .int .i64 x.client, .int .i64 x.seq]) rfl ((hr.to0 hz).elem hp hp1))<|Zm rfl rfl<|Zm rfl rfl<|MP rfl<|MV (fun wz hz => EI Tryz.underlying22 ty45 rfl rfl (len := l.length) (i := i) (by omega) (by omega) rfl)<|cZ e30<|MP rfl<|MV (fun wz hz => EN ty45 rfl (vs := [.int .i64 x.kind, .int .i64 x.group, .int .i64 x.b.r, .int .i64 x.b.n, .int .i64 x.vote.slot, .int .i64 x.vote.b.r, .int .i64 x.vote.b.n, .slice E1 x.vote.val.length f1, .int .i64 x.entry.slot, .slice E2 x.entry.val.length f2, .int .i64 x.right.g, strV x.right.key, .int .i64 x.right.lease, .int .i64 x.right.net, .int .i64 x.client, .int .i64 x.seq]) rfl ((hrb.to0 hz).elem hq hp2))<|MO rfl<|OC (ex_call_val gf15 rfl rfl) (same_nt x B1 j1 B2 j2 E1 f1 E2 f2 ok ok2 _ (h1.to H2 k0) (h3.to H2 k0) (u1.to H2 k0) (u3.to H2 k0))<|fun w3 Hd=>have H3:=H2.callN Hd;OE<|⟨fun hne => H3.pick [] (by decide), ?_⟩
 refine cZ e30<|MO rfl<|Xn rfl<|OE<|⟨fun hne => absurd rfl hne, ?_⟩
 refine cZ e30<|ME<|cR e30<|J4 rfl<|J6<|run_nil (blk_normal ?_)
 refine J2<|Xm rfl<|OV (ex_add rfl rfl (IntWalk.i64_in _ (by omega)))<|Xa rfl<|Xr e30<|run_nil (rnd_normal ?_)
 exact ⟨l.length - (i + 1), by omega, i + 1, _, rfl, (fs (fs (fs (fn (fn (fn (fn (fs (fn (fn (fn (fn (fn (fn (fn (fn (fn (fn (fn (fn (fn (fn (fn (fn (fn (fn (fn (fn (fn (fn f0)))))))))))))))))))))))))))))), by omega, by omega, H3.noRows⟩
 refine Xr e30<|J4 rfl<|J8<|rnd_exit<|blk_exit<|Rq<|Xa rfl<|Xr e30<|J5<|FN1 rfl rfl<|⟨rfl, H1.noRows⟩
end Go.Proofs.YtbninklfoogmdaaGreat
