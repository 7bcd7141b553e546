/- Walks of layer 2, printed by wip/gen/codec.py. -/
import Derived.Test.YtbninklfoogmdaaGreatNf
import Derived.Test.YtbninklfoogmdaaGreatVaS
import Derived.Test.YtbninklfoogmdaaGreatVaR
import Derived.Test.YtbninklfoogmdaaGreatVaP
namespace Go.Proofs.YtbninklfoogmdaaGreat
open Go Go.RowKit
set_option linter.unusedVariables false
attribute [local irreducible] Still Ops Does Cd
set_option maxRecDepth 100000 in
set_option maxHeartbeats 32000000 in
theorem into_r (b : Bo) (A1 : Option Addr) (k1 : Nat) (A2 : Option Addr) (k2 : Nat) (A3 : Option Addr) (k3 : Nat) (n : Nt) (B1 : Option Addr) (j1 : Nat) (B2 : Option Addr) (j2 : Nat) (ok : Nat → Prop) (N : Nat) (w0 : World) (hb1 : Sl (SvR w0 ok) 6 w0 ok A1 b.groups) (hb2 : Sl RtR 4 w0 ok A2 b.rights) (hb3 : Sl MkR 7 w0 ok A3 b.last) (hbv : Bs w0 ok B1 n.vote.val) (hbe : Bs w0 ok B2 n.entry.val) (hg : Good b N) (hN : N ≤ 900000000000) : Does Tryz.prog 9 #[.agg [.slice A1 b.groups.length k1, .slice A2 b.rights.length k2, .slice A3 b.last.length k3].toArray, .agg [.int .i64 n.kind, .int .i64 n.group, .int .i64 n.b.r, .int .i64 n.b.n, .int .i64 n.vote.slot, .int .i64 n.vote.b.r, .int .i64 n.vote.b.n, .slice B1 n.vote.val.length j1, .int .i64 n.entry.slot, .slice B2 n.entry.val.length j2, .int .i64 n.right.g, strV n.right.key, .int .i64 n.right.lease, .int .i64 n.right.net, .int .i64 n.client, .int .i64 n.seq].toArray] w0 (fun r w' => ∃ X1 m1 x1 X2 m2 x2 X3 m3 x3 f, r = .tuple #[.agg [.slice X1 m1 x1, .slice X2 m2 x2, .slice X3 m3 x3].toArray, .bool f] ∧ (∀ b', b.into n = some b' → f = true ∧ BoR w' (up ok w0.heap.size) [.slice X1 m1 x1, .slice X2 m2 x2, .slice X3 m3 x3] b') ∧ (b.into n = none → f = false) ∧ Hp w0 w' [] []) := by
 refine does_of Tryz.func9 Tryz.ntmps9 rfl<|cR e107 ?_
 have H := Hp.refl w0
 obtain ⟨pg, hpg, hrg, hag, h2g⟩ := id hb1
 have hgl := h2g.len
 have h8 := hg.eight
 have hong := h2g.ones fun _ _ h => h.ones
 refine Rq<|ops_box rfl rfl H<|fun w1 gb H1 _=>ops_box rfl rfl H1<|fun w2 gn H2 _=>OA ty27 H2<|fun w3 gr H3 _=>Xa rfl<|Xr e107<|J1<|Rq<|Xf fl45_0 rfl<|OV (EL ty3 rfl (H3.cell (i := 1) rfl rfl))<|OT (ex_eql rfl rfl) (fun hp14 => ?_) (fun hp14 => ?_)
 refine Xr e107<|J3 rfl<|Rq<|Xf fl27_1 rfl<|OV (EL ty24 rfl (H3.cell (i := 0) rfl rfl))<|Xf fl45_5 rfl<|OV (EN ty43 rfl (vs := [.int .i64 n.right.g, strV n.right.key, .int .i64 n.right.lease, .int .i64 n.right.net]) rfl (H3.cellsR (i := 1) rfl rfl))<|cOp e107 ?_
 have hnp9 := Hp.fresh H3
 have hsz9 := H3.size
 refine OQ (EC gf20 rfl) (put16 n.right A2 k2 b.rights ok _ (hb2.toR H3 k0) (by have := hg.few; omega) hg.rts) ?_
 rintro r w4 ⟨hyes, hno, Hd⟩
 have HP := H3.callN Hd
 have H4 := HP.here
 have hszP := HP.size
 by_cases hmay : mayR n.right
 obtain ⟨A9, k9, rfl, hA9⟩ := hyes hmay
 refine Xm rfl<|Xe rfl rfl<|Xe rfl rfl<|Xa rfl<|cOp e107<|Xa rfl<|Xr e107<|J1<|Rq<|Xm rfl<|OT0 (ex_neq rfl rfl) (by decide)<|Xr e107<|J4 rfl<|J6<|Rq<|Xm rfl<|Xf fl27_1 rfl<|OW ty24 H4 0 rfl rfl rfl rfl (by first | (simp; done) | simp [putAt]) rfl<|fun w5 H5=>Xr e107<|Rq<|Xf fl27_2 rfl<|OV (EL ty25 rfl (H5.cell (i := 0) rfl rfl))<|Xf fl45_6 rfl<|OV (EL ty3 rfl (H5.cell (i := 1) rfl rfl))<|cOp e107<|OQ (EC gf21 rfl) (find14 A3 k3 b.last n.client ok _ (hb3.toM (HP.all H5) k0) hg.mks) ?_
 rintro r w6 ⟨hyes2, hno2, Hd⟩
 have H6 := H5.callN Hd
 cases hfm : findMk b.last n.client
 obtain rfl := hno2 hfm
 refine Xm rfl<|Xe rfl rfl<|Xe rfl rfl<|OA ty63 H6<|fun w7 gz H7 _=>cOp e107<|OS ty63 H7 3 (vs := [.int .i64 (⟨0, 0⟩ : Mk).client, .int .i64 (⟨0, 0⟩ : Mk).seq, .bool false, .int .i64 0, .int .i64 0, .int .i64 0, .int .i64 0]) rfl rfl rfl rfl rfl (Nat.le_refl 7) rfl<|fun w8 H8=>Xa rfl<|Xr e107<|J1<|Rq<|Xf fl45_6 rfl<|OV (EL ty3 rfl (H8.cell (i := 1) rfl rfl))<|OX (EC gf22 rfl) (client14 _ _) (fun hp38 w9 Hd => ?_) (fun hp38 w9 Hd => ?_)
 have H9 := H8.callN Hd
 refine Xm rfl<|cOp e107<|OY rfl<|Xf fl45_7 rfl<|OY rfl<|OV (EL ty3 rfl (H9.cell (i := 1) rfl rfl))<|cOp e107<|OY rfl<|OX (EC gf23 rfl) (seq14 _ _) (fun hp42 w10 Hd => ?_) (fun hp42 w10 Hd => ?_)
 have H10 := H9.callN Hd
 refine Xt rfl rfl<|Xm rfl<|cOp e107<|OY rfl<|Xm rfl<|OY rfl<|Xn rfl<|cOp e107<|OY rfl<|Xm rfl<|OZ rfl<|cOp e107<|OZ rfl<|OZ rfl<|cOp e107<|OZ rfl<|OZ rfl<|cOp e107<|OY rfl<|Xt rfl rfl<|Xt rfl rfl<|Xr e107<|J3 rfl<|J2<|Xf fl27_2 rfl<|OV (EL ty25 rfl (H10.cell (i := 0) rfl rfl))<|Xf fl45_6 rfl<|OV (EL ty3 rfl (H10.cell (i := 1) rfl rfl))<|cOp e107<|Xf fl45_7 rfl<|OV (EL ty3 rfl (H10.cell (i := 1) rfl rfl))<|OV (EB ty63 pl63 rfl rfl) ?_
 have hnp8 := Hp.fresh H10
 have hsz8 := H10.size
 refine OQ (EC gf24 rfl) (with14 A3 k3 b.last (⟨n.client, n.seq⟩ : Mk) ok _ (hb3.toM (HP.all H10) k0) hg.mks hp38 hp42) ?_
 rintro _ w11 ⟨A8, k8, rfl, hA8, Hd⟩
 have HX := H10.callN Hd
 have H11 := HX.here
 refine cOp e107<|Xf fl27_2 rfl<|OW ty25 H11 0 rfl rfl rfl rfl (by first | (simp; done) | simp [putAt]) rfl<|fun w12 H12=>Xr e107<|Rq<|OV (EN ty27 rfl (vs := [.slice A1 b.groups.length k1, .slice A9 (putRt b.rights n.right).length k9, .slice A8 (putMk b.last ⟨n.client, n.seq⟩).length k8]) rfl (H12.cellsR (i := 0) rfl rfl))<|OS ty27 H12 2 rfl rfl rfl rfl rfl (by first | decide | (simp; done) | simp [putAt]) rfl<|fun w13 H13=>Xa rfl<|Xr e107<|J5<|fin_cell_tmp rfl ty27 (cs := [.slice A1 b.groups.length k1, .slice A9 (putRt b.rights n.right).length k9, .slice A8 (putMk b.last ⟨n.client, n.seq⟩).length k8]) rfl rfl rfl (H13.cellsR (i := 2) rfl rfl) ?_
 have HW := HP.all (HX.all H13)
 refine ⟨A1, _, k1, A9, _, k9, _, _, _, true, rfl, (fun b' hb' => ?_), (fun hb' => by rw [into_right hp14 hmay] at hb'; cases hb'), HW.noRows⟩
 rw [into_right hp14 hmay] at hb'
 simp only [Option.some.injEq] at hb'
 subst hb'
 refine ⟨rfl, A1, k1, A9, k9, A8, k8, ?_, hb1.toS HW up_k0, hA9.toR (HX.all H13) (fun x hx _ => ⟨hnp9 x hx, .inr (by have := hx; omega)⟩), ?_⟩
 show _ = [_, _, Value.slice _ (spend b.last n.client n.seq).length _]
 rw [spend_new (by omega) hfm]
 show Sl MkR 7 _ _ _ (spend b.last n.client n.seq)
 rw [spend_new (by omega) hfm]
 exact hA8.toM H13 (fun x hx _ => ⟨hnp8 x hx, .inr (by have := hx; omega)⟩)
 have H10 := H9.callN Hd
 refine Xt rfl rfl<|Xm rfl<|cOp e107<|OZ rfl<|OZ rfl<|cOp e107<|OZ rfl<|OZ rfl<|cOp e107<|OZ rfl<|OZ rfl<|cOp e107<|OZ rfl<|OZ rfl<|cOp e107<|OZ rfl<|Xu rfl rfl<|Xr e107<|J4 rfl<|J6<|Rq<|OV (EN ty27 rfl (vs := [.slice A1 b.groups.length k1, .slice A9 (putRt b.rights n.right).length k9, .slice A3 b.last.length k3]) rfl (H10.cellsR (i := 0) rfl rfl))<|OS ty27 H10 2 rfl rfl rfl rfl rfl (by first | decide | (simp; done) | simp [putAt]) rfl<|fun w11 H11=>Xa rfl<|Xr e107<|J5<|fin_cell_tmp rfl ty27 (cs := [.slice A1 b.groups.length k1, .slice A9 (putRt b.rights n.right).length k9, .slice A3 b.last.length k3]) rfl rfl rfl (H11.cellsR (i := 2) rfl rfl) ?_
 have HW := HP.all H11
 refine ⟨A1, _, k1, A9, _, k9, _, _, _, true, rfl, (fun b' hb' => ?_), (fun hb' => by rw [into_right hp14 hmay] at hb'; cases hb'), HW.noRows⟩
 rw [into_right hp14 hmay] at hb'
 simp only [Option.some.injEq] at hb'
 subst hb'
 refine ⟨rfl, A1, k1, A9, k9, A3, k3, ?_, hb1.toS HW up_k0, hA9.toR H11 (fun x hx _ => ⟨hnp9 x hx, .inr (by have := hx; omega)⟩), ?_⟩
 show _ = [_, _, Value.slice _ (spend b.last n.client n.seq).length _]
 rw [spend_no (by omega)]
 show Sl MkR 7 _ _ _ (spend b.last n.client n.seq)
 rw [spend_no (by omega)]
 exact hb3.toM HW up_k0
 have H9 := H8.callN Hd
 refine Xm rfl<|cOp e107<|OZ rfl<|OZ rfl<|cOp e107<|OZ rfl<|Xu rfl rfl<|Xm rfl<|cOp e107<|OZ rfl<|OZ rfl<|cOp e107<|OZ rfl<|OZ rfl<|cOp e107<|OZ rfl<|OZ rfl<|cOp e107<|OZ rfl<|OZ rfl<|cOp e107<|OZ rfl<|Xu rfl rfl<|Xr e107<|J4 rfl<|J6<|Rq<|OV (EN ty27 rfl (vs := [.slice A1 b.groups.length k1, .slice A9 (putRt b.rights n.right).length k9, .slice A3 b.last.length k3]) rfl (H9.cellsR (i := 0) rfl rfl))<|OS ty27 H9 2 rfl rfl rfl rfl rfl (by first | decide | (simp; done) | simp [putAt]) rfl<|fun w10 H10=>Xa rfl<|Xr e107<|J5<|fin_cell_tmp rfl ty27 (cs := [.slice A1 b.groups.length k1, .slice A9 (putRt b.rights n.right).length k9, .slice A3 b.last.length k3]) rfl rfl rfl (H10.cellsR (i := 2) rfl rfl) ?_
 have HW := HP.all H10
 refine ⟨A1, _, k1, A9, _, k9, _, _, _, true, rfl, (fun b' hb' => ?_), (fun hb' => by rw [into_right hp14 hmay] at hb'; cases hb'), HW.noRows⟩
 rw [into_right hp14 hmay] at hb'
 simp only [Option.some.injEq] at hb'
 subst hb'
 refine ⟨rfl, A1, k1, A9, k9, A3, k3, ?_, hb1.toS HW up_k0, hA9.toR H10 (fun x hx _ => ⟨hnp9 x hx, .inr (by have := hx; omega)⟩), ?_⟩
 show _ = [_, _, Value.slice _ (spend b.last n.client n.seq).length _]
 rw [spend_no (by omega)]
 show Sl MkR 7 _ _ _ (spend b.last n.client n.seq)
 rw [spend_no (by omega)]
 exact hb3.toM HW up_k0
 rename_i o
 obtain rfl := hyes2 o hfm
 refine Xm rfl<|Xe rfl rfl<|Xe rfl rfl<|OA ty63 H6<|fun w7 gz H7 _=>cOp e107<|OS ty63 H7 3 (vs := [.int .i64 o.client, .int .i64 o.seq, .bool false, .int .i64 0, .int .i64 0, .int .i64 0, .int .i64 0]) rfl rfl rfl rfl rfl (Nat.le_refl 7) rfl<|fun w8 H8=>Xa rfl<|Xr e107<|J1<|Rq<|Xf fl45_6 rfl<|OV (EL ty3 rfl (H8.cell (i := 1) rfl rfl))<|OX (EC gf22 rfl) (client14 _ _) (fun hp38 w9 Hd => ?_) (fun hp38 w9 Hd => ?_)
 have H9 := H8.callN Hd
 refine Xm rfl<|cOp e107<|OY rfl<|Xf fl45_7 rfl<|OY rfl<|OV (EL ty3 rfl (H9.cell (i := 1) rfl rfl))<|cOp e107<|OY rfl<|OX (EC gf23 rfl) (seq14 _ _) (fun hp42 w10 Hd => ?_) (fun hp42 w10 Hd => ?_)
 have H10 := H9.callN Hd
 refine Xt rfl rfl<|Xm rfl<|cOp e107<|OY rfl<|Xm rfl<|OY rfl<|Xn rfl<|cOp e107<|OY rfl<|Xm rfl<|OY rfl<|Xf fl45_7 rfl<|cOp e107<|OY rfl<|OV (EL ty3 rfl (H10.cell (i := 1) rfl rfl))<|OY rfl<|Xf fl63_1 rfl<|cOp e107<|OY rfl<|OV (EL ty3 rfl (H10.cell (i := 3) rfl rfl))<|OY rfl<|OT (ex_gtr rfl rfl) (fun hp52 => ?_) (fun hp52 => ?_)
 refine OY rfl<|Xu rfl rfl<|Xt rfl rfl<|Xr e107<|J3 rfl<|J2<|Xf fl27_2 rfl<|OV (EL ty25 rfl (H10.cell (i := 0) rfl rfl))<|Xf fl45_6 rfl<|OV (EL ty3 rfl (H10.cell (i := 1) rfl rfl))<|cOp e107<|Xf fl45_7 rfl<|OV (EL ty3 rfl (H10.cell (i := 1) rfl rfl))<|OV (EB ty63 pl63 rfl rfl) ?_
 have hnp8 := Hp.fresh H10
 have hsz8 := H10.size
 refine OQ (EC gf24 rfl) (with14 A3 k3 b.last (⟨n.client, n.seq⟩ : Mk) ok _ (hb3.toM (HP.all H10) k0) hg.mks hp38 hp42) ?_
 rintro _ w11 ⟨A8, k8, rfl, hA8, Hd⟩
 have HX := H10.callN Hd
 have H11 := HX.here
 refine cOp e107<|Xf fl27_2 rfl<|OW ty25 H11 0 rfl rfl rfl rfl (by first | (simp; done) | simp [putAt]) rfl<|fun w12 H12=>Xr e107<|Rq<|OV (EN ty27 rfl (vs := [.slice A1 b.groups.length k1, .slice A9 (putRt b.rights n.right).length k9, .slice A8 (putMk b.last ⟨n.client, n.seq⟩).length k8]) rfl (H12.cellsR (i := 0) rfl rfl))<|OS ty27 H12 2 rfl rfl rfl rfl rfl (by first | decide | (simp; done) | simp [putAt]) rfl<|fun w13 H13=>Xa rfl<|Xr e107<|J5<|fin_cell_tmp rfl ty27 (cs := [.slice A1 b.groups.length k1, .slice A9 (putRt b.rights n.right).length k9, .slice A8 (putMk b.last ⟨n.client, n.seq⟩).length k8]) rfl rfl rfl (H13.cellsR (i := 2) rfl rfl) ?_
 have HW := HP.all (HX.all H13)
 refine ⟨A1, _, k1, A9, _, k9, _, _, _, true, rfl, (fun b' hb' => ?_), (fun hb' => by rw [into_right hp14 hmay] at hb'; cases hb'), HW.noRows⟩
 rw [into_right hp14 hmay] at hb'
 simp only [Option.some.injEq] at hb'
 subst hb'
 refine ⟨rfl, A1, k1, A9, k9, A8, k8, ?_, hb1.toS HW up_k0, hA9.toR (HX.all H13) (fun x hx _ => ⟨hnp9 x hx, .inr (by have := hx; omega)⟩), ?_⟩
 show _ = [_, _, Value.slice _ (spend b.last n.client n.seq).length _]
 rw [spend_more (by omega) hfm (by omega)]
 show Sl MkR 7 _ _ _ (spend b.last n.client n.seq)
 rw [spend_more (by omega) hfm (by omega)]
 exact hA8.toM H13 (fun x hx _ => ⟨hnp8 x hx, .inr (by have := hx; omega)⟩)
 refine OY rfl<|Xu rfl rfl<|Xt rfl rfl<|Xr e107<|J4 rfl<|J6<|Rq<|OV (EN ty27 rfl (vs := [.slice A1 b.groups.length k1, .slice A9 (putRt b.rights n.right).length k9, .slice A3 b.last.length k3]) rfl (H10.cellsR (i := 0) rfl rfl))<|OS ty27 H10 2 rfl rfl rfl rfl rfl (by first | decide | (simp; done) | simp [putAt]) rfl<|fun w11 H11=>Xa rfl<|Xr e107<|J5<|fin_cell_tmp rfl ty27 (cs := [.slice A1 b.groups.length k1, .slice A9 (putRt b.rights n.right).length k9, .slice A3 b.last.length k3]) rfl rfl rfl (H11.cellsR (i := 2) rfl rfl) ?_
 have HW := HP.all H11
 refine ⟨A1, _, k1, A9, _, k9, _, _, _, true, rfl, (fun b' hb' => ?_), (fun hb' => by rw [into_right hp14 hmay] at hb'; cases hb'), HW.noRows⟩
 rw [into_right hp14 hmay] at hb'
 simp only [Option.some.injEq] at hb'
 subst hb'
 refine ⟨rfl, A1, k1, A9, k9, A3, k3, ?_, hb1.toS HW up_k0, hA9.toR H11 (fun x hx _ => ⟨hnp9 x hx, .inr (by have := hx; omega)⟩), ?_⟩
 show _ = [_, _, Value.slice _ (spend b.last n.client n.seq).length _]
 rw [spend_has hfm (by omega)]
 show Sl MkR 7 _ _ _ (spend b.last n.client n.seq)
 rw [spend_has hfm (by omega)]
 exact hb3.toM HW up_k0
 have H10 := H9.callN Hd
 refine Xt rfl rfl<|Xm rfl<|cOp e107<|OZ rfl<|OZ rfl<|cOp e107<|OZ rfl<|OZ rfl<|cOp e107<|OZ rfl<|OZ rfl<|cOp e107<|OZ rfl<|OZ rfl<|cOp e107<|OZ rfl<|Xu rfl rfl<|Xr e107<|J4 rfl<|J6<|Rq<|OV (EN ty27 rfl (vs := [.slice A1 b.groups.length k1, .slice A9 (putRt b.rights n.right).length k9, .slice A3 b.last.length k3]) rfl (H10.cellsR (i := 0) rfl rfl))<|OS ty27 H10 2 rfl rfl rfl rfl rfl (by first | decide | (simp; done) | simp [putAt]) rfl<|fun w11 H11=>Xa rfl<|Xr e107<|J5<|fin_cell_tmp rfl ty27 (cs := [.slice A1 b.groups.length k1, .slice A9 (putRt b.rights n.right).length k9, .slice A3 b.last.length k3]) rfl rfl rfl (H11.cellsR (i := 2) rfl rfl) ?_
 have HW := HP.all H11
 refine ⟨A1, _, k1, A9, _, k9, _, _, _, true, rfl, (fun b' hb' => ?_), (fun hb' => by rw [into_right hp14 hmay] at hb'; cases hb'), HW.noRows⟩
 rw [into_right hp14 hmay] at hb'
 simp only [Option.some.injEq] at hb'
 subst hb'
 refine ⟨rfl, A1, k1, A9, k9, A3, k3, ?_, hb1.toS HW up_k0, hA9.toR H11 (fun x hx _ => ⟨hnp9 x hx, .inr (by have := hx; omega)⟩), ?_⟩
 show _ = [_, _, Value.slice _ (spend b.last n.client n.seq).length _]
 rw [spend_no (by omega)]
 show Sl MkR 7 _ _ _ (spend b.last n.client n.seq)
 rw [spend_no (by omega)]
 exact hb3.toM HW up_k0
 have H9 := H8.callN Hd
 refine Xm rfl<|cOp e107<|OZ rfl<|OZ rfl<|cOp e107<|OZ rfl<|Xu rfl rfl<|Xm rfl<|cOp e107<|OZ rfl<|OZ rfl<|cOp e107<|OZ rfl<|OZ rfl<|cOp e107<|OZ rfl<|OZ rfl<|cOp e107<|OZ rfl<|OZ rfl<|cOp e107<|OZ rfl<|Xu rfl rfl<|Xr e107<|J4 rfl<|J6<|Rq<|OV (EN ty27 rfl (vs := [.slice A1 b.groups.length k1, .slice A9 (putRt b.rights n.right).length k9, .slice A3 b.last.length k3]) rfl (H9.cellsR (i := 0) rfl rfl))<|OS ty27 H9 2 rfl rfl rfl rfl rfl (by first | decide | (simp; done) | simp [putAt]) rfl<|fun w10 H10=>Xa rfl<|Xr e107<|J5<|fin_cell_tmp rfl ty27 (cs := [.slice A1 b.groups.length k1, .slice A9 (putRt b.rights n.right).length k9, .slice A3 b.last.length k3]) rfl rfl rfl (H10.cellsR (i := 2) rfl rfl) ?_
 have HW := HP.all H10
 refine ⟨A1, _, k1, A9, _, k9, _, _, _, true, rfl, (fun b' hb' => ?_), (fun hb' => by rw [into_right hp14 hmay] at hb'; cases hb'), HW.noRows⟩
 rw [into_right hp14 hmay] at hb'
 simp only [Option.some.injEq] at hb'
 subst hb'
 refine ⟨rfl, A1, k1, A9, k9, A3, k3, ?_, hb1.toS HW up_k0, hA9.toR H10 (fun x hx _ => ⟨hnp9 x hx, .inr (by have := hx; omega)⟩), ?_⟩
 show _ = [_, _, Value.slice _ (spend b.last n.client n.seq).length _]
 rw [spend_no (by omega)]
 show Sl MkR 7 _ _ _ (spend b.last n.client n.seq)
 rw [spend_no (by omega)]
 exact hb3.toM HW up_k0
 obtain rfl := hno hmay
 refine Xm rfl<|Xe rfl rfl<|Xe rfl rfl<|Xa rfl<|cOp e107<|Xa rfl<|Xr e107<|J1<|Rq<|Xm rfl<|OT1 (ex_neq rfl rfl) (by decide)<|Xr e107<|J3 rfl<|Rq<|OV (EN ty27 rfl (vs := [.slice A1 b.groups.length k1, .slice A2 b.rights.length k2, .slice A3 b.last.length k3]) rfl (H4.cellsR (i := 0) rfl rfl))<|OS ty27 H4 2 rfl rfl rfl rfl rfl (by first | decide | (simp; done) | simp [putAt]) rfl<|fun w5 H5=>Xa rfl<|Xr e107<|J5<|fin_cell_tmp rfl ty27 (cs := [.slice A1 b.groups.length k1, .slice A2 b.rights.length k2, .slice A3 b.last.length k3]) rfl rfl rfl (H5.cellsR (i := 2) rfl rfl)<|⟨_, _, _, _, _, _, _, _, _, false, rfl, (fun b' hb' => by rw [into_wrong hp14 hmay] at hb'; cases hb'), fun _ => rfl, (HP.all H5).noRows⟩
 refine Xr e107<|J4 rfl<|J6<|J1<|Rq<|Xf fl45_0 rfl<|OV (EL ty3 rfl (H3.cell (i := 1) rfl rfl))<|OT (ex_lss rfl rfl) (fun hp67 => ?_) (fun hp67 => ?_)
 refine Xm rfl<|cOp e107<|OZ rfl<|OZ rfl<|cOp e107<|OZ rfl<|Xt rfl rfl<|Xm rfl<|cOp e107<|OZ rfl<|OZ rfl<|cOp e107<|OZ rfl<|Xt rfl rfl<|Xm rfl<|cOp e107<|OZ rfl<|OZ rfl<|cOp e107<|OZ rfl<|Xt rfl rfl<|Xr e107<|J3 rfl<|Rq<|OV (EN ty27 rfl (vs := [.slice A1 b.groups.length k1, .slice A2 b.rights.length k2, .slice A3 b.last.length k3]) rfl (H3.cellsR (i := 0) rfl rfl))<|OS ty27 H3 2 rfl rfl rfl rfl rfl (by first | decide | (simp; done) | simp [putAt]) rfl<|fun w4 H4=>Xa rfl<|Xr e107<|J5<|fin_cell_tmp rfl ty27 (cs := [.slice A1 b.groups.length k1, .slice A2 b.rights.length k2, .slice A3 b.last.length k3]) rfl rfl rfl (H4.cellsR (i := 2) rfl rfl)<|⟨_, _, _, _, _, _, _, _, _, false, rfl, (fun b' hb' => by rw [into_bad hp14 (by omega)] at hb'; cases hb'), fun _ => rfl, H4.noRows⟩
 refine Xm rfl<|cOp e107<|OY rfl<|Xf fl45_0 rfl<|OY rfl<|OV (EL ty3 rfl (H3.cell (i := 1) rfl rfl))<|cOp e107<|OY rfl<|OT (ex_gtr rfl rfl) (fun hp71 => ?_) (fun hp71 => ?_)
 refine Xu rfl rfl<|Xm rfl<|cOp e107<|OZ rfl<|OZ rfl<|cOp e107<|OZ rfl<|Xt rfl rfl<|Xm rfl<|cOp e107<|OZ rfl<|OZ rfl<|cOp e107<|OZ rfl<|Xt rfl rfl<|Xr e107<|J3 rfl<|Rq<|OV (EN ty27 rfl (vs := [.slice A1 b.groups.length k1, .slice A2 b.rights.length k2, .slice A3 b.last.length k3]) rfl (H3.cellsR (i := 0) rfl rfl))<|OS ty27 H3 2 rfl rfl rfl rfl rfl (by first | decide | (simp; done) | simp [putAt]) rfl<|fun w4 H4=>Xa rfl<|Xr e107<|J5<|fin_cell_tmp rfl ty27 (cs := [.slice A1 b.groups.length k1, .slice A2 b.rights.length k2, .slice A3 b.last.length k3]) rfl rfl rfl (H4.cellsR (i := 2) rfl rfl)<|⟨_, _, _, _, _, _, _, _, _, false, rfl, (fun b' hb' => by rw [into_bad hp14 (by omega)] at hb'; cases hb'), fun _ => rfl, H4.noRows⟩
 refine Xu rfl rfl<|Xm rfl<|cOp e107<|OY rfl<|Xf fl45_1 rfl<|OY rfl<|OV (EL ty3 rfl (H3.cell (i := 1) rfl rfl))<|cOp e107<|OY rfl<|OT (ex_lss rfl rfl) (fun hp76 => ?_) (fun hp76 => ?_)
 refine Xu rfl rfl<|Xm rfl<|cOp e107<|OZ rfl<|OZ rfl<|cOp e107<|OZ rfl<|Xt rfl rfl<|Xr e107<|J3 rfl<|Rq<|OV (EN ty27 rfl (vs := [.slice A1 b.groups.length k1, .slice A2 b.rights.length k2, .slice A3 b.last.length k3]) rfl (H3.cellsR (i := 0) rfl rfl))<|OS ty27 H3 2 rfl rfl rfl rfl rfl (by first | decide | (simp; done) | simp [putAt]) rfl<|fun w4 H4=>Xa rfl<|Xr e107<|J5<|fin_cell_tmp rfl ty27 (cs := [.slice A1 b.groups.length k1, .slice A2 b.rights.length k2, .slice A3 b.last.length k3]) rfl rfl rfl (H4.cellsR (i := 2) rfl rfl)<|⟨_, _, _, _, _, _, _, _, _, false, rfl, (fun b' hb' => by rw [into_bad hp14 (by omega)] at hb'; cases hb'), fun _ => rfl, H4.noRows⟩
 refine Xu rfl rfl<|Xm rfl<|cOp e107<|OY rfl<|Xf fl45_1 rfl<|OY rfl<|OV (EL ty3 rfl (H3.cell (i := 1) rfl rfl))<|cOp e107<|OY rfl<|OT (ex_geq rfl rfl) (fun hp81 => ?_) (fun hp81 => ?_)
 refine Xu rfl rfl<|Xr e107<|J3 rfl<|Rq<|OV (EN ty27 rfl (vs := [.slice A1 b.groups.length k1, .slice A2 b.rights.length k2, .slice A3 b.last.length k3]) rfl (H3.cellsR (i := 0) rfl rfl))<|OS ty27 H3 2 rfl rfl rfl rfl rfl (by first | decide | (simp; done) | simp [putAt]) rfl<|fun w4 H4=>Xa rfl<|Xr e107<|J5<|fin_cell_tmp rfl ty27 (cs := [.slice A1 b.groups.length k1, .slice A2 b.rights.length k2, .slice A3 b.last.length k3]) rfl rfl rfl (H4.cellsR (i := 2) rfl rfl)<|⟨_, _, _, _, _, _, _, _, _, false, rfl, (fun b' hb' => by rw [into_bad hp14 (by omega)] at hb'; cases hb'), fun _ => rfl, H4.noRows⟩
 obtain ⟨s, hs⟩ := get_of (l := b.groups) (j := n.group.toNat) (by omega)
 have hsl := lt_of_get hs
 obtain ⟨p1, hp1, hR⟩ := h2g.get hs
 obtain ⟨C1, q1, C2, q2, C3, q3, rfl, hv1, hv2, hv3⟩ := hR
 obtain ⟨a1, ha1⟩ := hrg.some_ (by omega)
 subst ha1
 have hce := (chk_iff s).1 (hg.chk s (mem_of hs))
 have hvfew := vts_few hce
 have hefew := ents_few hce
 have hglen := goes_len s n
 refine Xu rfl rfl<|Xr e107<|J4 rfl<|J6<|J1<|run_mixT 9 (.p 0 (.p 1 (.p 2 (.p 3 (.p 4 (.p 5 (.p 6 (.two 7 (.o 8 (.o 9 .nil)) 8 (.o 7 (.o 9 .nil)))))))))) H3 [0, 1, 2] mixed (by decide) (by kernel_rfl) ?_
 rintro w4 hw4
 have H4 := Hp.drew H3; rw [← hw4] at H4
 refine Tf rfl fl27_0 rfl<|TP rfl<|MV (fun wz hz => EL ty23 rfl (hz.cell (i := 0) rfl rfl))<|Tf rfl fl45_1 rfl<|TP rfl<|MV (fun wz hz => EL ty3 rfl (hz.cell (i := 1) rfl rfl))<|cT e107<|TP rfl<|MV (fun wz hz => EI Tryz.underlying23 ty57 rfl rfl (len := b.groups.length) (i := n.group.toNat) (by omega) (by omega) rfl)<|TP rfl<|MV (fun wz hz => EN ty57 rfl (vs := [.int .i64 s.p.r, .int .i64 s.p.n, .slice C1 s.votes.length q1, .int .i64 s.index, .slice C2 s.image.length q2, .slice C3 s.entries.length q3]) rfl ((hrg.to0 hz).elem hpg hp1))<|TP rfl<|MV (fun wz hz => EN ty45 rfl (vs := [.int .i64 n.kind, .int .i64 n.group, .int .i64 n.b.r, .int .i64 n.b.n, .int .i64 n.vote.slot, .int .i64 n.vote.b.r, .int .i64 n.vote.b.n, .slice B1 n.vote.val.length j1, .int .i64 n.entry.slot, .slice B2 n.entry.val.length j2, .int .i64 n.right.g, strV n.right.key, .int .i64 n.right.lease, .int .i64 n.right.net, .int .i64 n.client, .int .i64 n.seq]) rfl (hz.cellsR (i := 1) rfl rfl))<|mixt_two ?_ ?_
 refine TQ rfl ?_
 have hnp := Hp.fresh H4
 have hszp := H4.size
 have hpl := bl_place H4
 refine OQ (EC gf25 rfl) (goes_r s C1 q1 C2 q2 C3 q3 n B1 j1 B2 j2 (fun x => ok x ∧ x < w0.heap.size) _ (hv1.toV H4 (fun x hx hl => ⟨by simp, hx, hl⟩)) (hv2.to H4 (fun x hx hl => ⟨by simp, hx, hl⟩)) (hv3.toE H4 (fun x hx hl => ⟨by simp, hx, hl⟩)) (hbv.to H4 (fun x hx hl => ⟨by simp, hx, hl⟩)) (hbe.to H4 (fun x hx hl => ⟨by simp, hx, hl⟩)) ⟨by omega, by omega⟩ ⟨hce.i.1, hce.i.2.1⟩ hefew (by omega) (fun x hx => by obtain ⟨i, hi⟩ := List.getElem?_of_mem hx; exact (ents_slot hce.e i x hi).2.1)) ?_
 rintro _ w5 ⟨cs2, rfl, hsv, Hd⟩
 have HG := H4.callN Hd
 have HL := HG.here
 have H5 := HG
 obtain ⟨D1, e1, D2, e2, D3, e3, rfl, hw1, hw2, hw3⟩ := hsv
 have hnk : ∀ x, up (fun x => ok x ∧ x < w0.heap.size) w4.heap.size x → x ∉ bl _ := fun x hx hb => (show False from by
   rcases hx with hx | hx
   · rcases hpl x hb with h | h
     · cases h
     · have := hx.2; omega
   · exact hnp x hx hb)
 have hkk : ∀ x, up (fun x => ok x ∧ x < w0.heap.size) w4.heap.size x → x < w5.heap.size → x ∉ bl _ ∧ up ok w0.heap.size x := fun x hx _ => ⟨hnk x hx, by
   rcases hx with hx | hx
   · exact .inl hx.1
   · exact .inr (by omega)⟩
 refine OE ?_
 refine ⟨fun hne => H5.pick [0, 1, 2] (by decide), ?_⟩
 refine cT e107<|TQ rfl<|OA ty57 HL<|fun w6 gs HL2 _=>have H6:=HG.all HL2;OE<|⟨fun hne => H6.pick [0, 1, 2] (by decide), ?_⟩
 refine cT e107<|TQ rfl<|OS ty57 HL2 3 (vs := [.int .i64 (s.goes n).p.r, .int .i64 (s.goes n).p.n, .slice D1 (s.goes n).votes.length e1, .int .i64 (s.goes n).index, .slice D2 (s.goes n).image.length e2, .slice D3 (s.goes n).entries.length e3]) rfl rfl rfl rfl rfl (Nat.le_refl 6) rfl<|fun w7 H7=>OE<|⟨fun hne => absurd rfl hne, ?_⟩
 refine cT e107<|mixt_nil<|cR e107<|J1<|Rq<|OV (EN ty57 rfl (vs := [.int .i64 (s.goes n).p.r, .int .i64 (s.goes n).p.n, .slice D1 (s.goes n).votes.length e1, .int .i64 (s.goes n).index, .slice D2 (s.goes n).image.length e2, .slice D3 (s.goes n).entries.length e3]) rfl (H7.cellsR (i := 3) rfl rfl))<|OQ (EC gf26 rfl) (check_r (s.goes n) D1 e1 D2 e2 D3 e3 _ _ (hw1.toV H7 hkk) (hw2.to H7 hkk) (hw3.toE H7 hkk) (by omega) (by omega)) ?_
 rintro _ w8 ⟨e, rfl, hans, Hd⟩
 have H8 := H7.callN Hd
 refine OT (ex_neq rfl rfl) (fun hp94 => ?_) (fun hp94 => ?_)
 refine Xr e107<|J3 rfl<|Rq<|OV (EN ty27 rfl (vs := [.slice (some a1) b.groups.length k1, .slice A2 b.rights.length k2, .slice A3 b.last.length k3]) rfl (H8.cellsR (i := 0) rfl rfl))<|OS ty27 H8 2 rfl rfl rfl rfl rfl (by first | decide | (simp; done) | simp [putAt]) rfl<|fun w9 H9=>Xa rfl<|Xr e107<|J5<|fin_cell_tmp rfl ty27 (cs := [.slice (some a1) b.groups.length k1, .slice A2 b.rights.length k2, .slice A3 b.last.length k3]) rfl rfl rfl (H9.cellsR (i := 2) rfl rfl)<|⟨_, _, _, _, _, _, _, _, _, false, rfl, (fun b' hb' => by rw [into_no hp14 hs (by cases hc : chk (s.goes n) with | false => rfl | true => exact absurd (hans.1 hc) hp94)] at hb'; cases hb'), fun _ => rfl, (HG.all H9).noRows⟩
 have hchk : chk (s.goes n) = true := by cases hc : chk (s.goes n) with | true => rfl | false => have := hans.2 hc; omega
 refine Xr e107<|J4 rfl<|J6<|Rq<|Xf fl27_0 rfl<|OV (EL ty23 rfl (H8.cell (i := 0) rfl rfl))<|ops_grow Tryz.underlying23 ty57 (by decide) (H8.nil 57) 4 (Gw.nil 6) rfl rfl (rs := pg)  (m := b.groups.length) hgl rfl (hrg.to0 (HG.all H8)) hpg hong (by rw [List.length_nil]; omega) (by rw [List.length_nil]; omega) (by decide)<|fun w9 g2 cap2 sp2 H9 hG2=>?_
 rw [List.nil_append pg] at H9 hG2 ⊢
 rw [hgl]
 obtain ⟨gw, rfl⟩ := own_some H9 (i := 4) rfl (by rw [List.length_append, hpg.len]; omega)
 refine Xa rfl<|Xr e107<|Rq<|Xm rfl<|Xf fl45_1 rfl<|OV (EL ty3 rfl (H9.cell (i := 1) rfl rfl))<|OV (EN ty57 rfl (vs := [.int .i64 (s.goes n).p.r, .int .i64 (s.goes n).p.n, .slice D1 (s.goes n).votes.length e1, .int .i64 (s.goes n).index, .slice D2 (s.goes n).image.length e2, .slice D3 (s.goes n).entries.length e3]) rfl (H9.cellsR (i := 3) rfl rfl))<|cOp e107<|OV (ex_idxN Tryz.underlying23 ty57 rfl rfl (len := b.groups.length) (i := n.group.toNat) (by omega) (by omega))<|OS ty57 H9 4 rfl rfl rfl rfl rfl (by rw [List.length_append, hpg.len]; show 0 + n.group.toNat * 6 + 6 ≤ _; omega) rfl<|fun w10 H10=>?_
 rw [store_elem (sz := 6) (vs := [.int .i64 (s.goes n).p.r, .int .i64 (s.goes n).p.n, .slice D1 (s.goes n).votes.length e1, .int .i64 (s.goes n).index, .slice D2 (s.goes n).image.length e2, .slice D3 (s.goes n).entries.length e3]) hpg (by omega) rfl] at H10
 refine Xr e107<|Rq<|Xm rfl<|Xf fl27_0 rfl<|OW ty23 H10 0 rfl rfl rfl rfl (by first | (simp; done) | simp [putAt]) rfl<|fun w11 H11=>Xr e107<|Rq<|OV (EN ty27 rfl (vs := [.slice (hd (some gw)) b.groups.length cap2, .slice A2 b.rights.length k2, .slice A3 b.last.length k3]) rfl (H11.cellsR (i := 0) rfl rfl))<|OS ty27 H11 2 rfl rfl rfl rfl rfl (by first | decide | (simp; done) | simp [putAt]) rfl<|fun w12 H12=>Xa rfl<|Xr e107<|J5<|fin_cell_tmp rfl ty27 (cs := [.slice (hd (some gw)) b.groups.length cap2, .slice A2 b.rights.length k2, .slice A3 b.last.length k3]) rfl rfl rfl (H12.cellsR (i := 2) rfl rfl) ?_
 have HW := HG.all H12
 refine ⟨_, _, _, _, _, _, _, _, _, true, rfl, fun b' hb' => ?_, (fun h => by rw [into_yes hp14 (by omega) hs hchk] at h; cases h), HW.noRows⟩
 rw [into_yes hp14 (by omega) hs hchk] at hb'
 simp only [Option.some.injEq] at hb'
 subst hb'
 refine ⟨rfl, hd (some gw), cap2, A2, k2, A3, k3, by rw [List.length_set], ?_, hb2.toR HW up_k0, hb3.toM HW up_k0⟩
 exact Sl.row HW (i := 4) rfl (hpg.set_len rfl) (by decide) ((h2g.imp (R' := SvR w12 (up ok w0.heap.size)) fun p x h => h.to HW up_k0).set _ ⟨D1, e1, D2, e2, D3, e3, rfl, hw1.toV H12 hkk, hw2.to H12 hkk, hw3.toE H12 hkk⟩) (row_new (ok := ok) HW (i := 4) rfl (fun _ h => by cases h))
 refine TQ rfl<|OA ty57 H4<|fun w5 gs H5 _=>OE<|⟨fun hne => H5.pick [0, 1, 2] (by decide), ?_⟩
 refine cT e107<|TQ rfl ?_
 have hnp := Hp.fresh H5
 have hszp := H5.size
 have hpl := bl_place H5
 refine OQ (EC gf25 rfl) (goes_r s C1 q1 C2 q2 C3 q3 n B1 j1 B2 j2 (fun x => ok x ∧ x < w0.heap.size) _ (hv1.toV H5 (fun x hx hl => ⟨by simp, hx, hl⟩)) (hv2.to H5 (fun x hx hl => ⟨by simp, hx, hl⟩)) (hv3.toE H5 (fun x hx hl => ⟨by simp, hx, hl⟩)) (hbv.to H5 (fun x hx hl => ⟨by simp, hx, hl⟩)) (hbe.to H5 (fun x hx hl => ⟨by simp, hx, hl⟩)) ⟨by omega, by omega⟩ ⟨hce.i.1, hce.i.2.1⟩ hefew (by omega) (fun x hx => by obtain ⟨i, hi⟩ := List.getElem?_of_mem hx; exact (ents_slot hce.e i x hi).2.1)) ?_
 rintro _ w6 ⟨cs2, rfl, hsv, Hd⟩
 have HG := H5.callN Hd
 have HL := HG.here
 have H6 := HG
 obtain ⟨D1, e1, D2, e2, D3, e3, rfl, hw1, hw2, hw3⟩ := hsv
 have hnk : ∀ x, up (fun x => ok x ∧ x < w0.heap.size) w5.heap.size x → x ∉ bl _ := fun x hx hb => (show False from by
   rcases hx with hx | hx
   · rcases hpl x hb with h | h
     · cases h
     · have := hx.2; omega
   · exact hnp x hx hb)
 have hkk : ∀ x, up (fun x => ok x ∧ x < w0.heap.size) w5.heap.size x → x < w6.heap.size → x ∉ bl _ ∧ up ok w0.heap.size x := fun x hx _ => ⟨hnk x hx, by
   rcases hx with hx | hx
   · exact .inl hx.1
   · exact .inr (by omega)⟩
 refine OE ?_
 refine ⟨fun hne => H6.pick [0, 1, 2] (by decide), ?_⟩
 refine cT e107<|TQ rfl<|OS ty57 HL 3 (vs := [.int .i64 (s.goes n).p.r, .int .i64 (s.goes n).p.n, .slice D1 (s.goes n).votes.length e1, .int .i64 (s.goes n).index, .slice D2 (s.goes n).image.length e2, .slice D3 (s.goes n).entries.length e3]) rfl rfl rfl rfl rfl (Nat.le_refl 6) rfl<|fun w7 H7=>OE<|⟨fun hne => absurd rfl hne, ?_⟩
 refine cT e107<|mixt_nil<|cR e107<|J1<|Rq<|OV (EN ty57 rfl (vs := [.int .i64 (s.goes n).p.r, .int .i64 (s.goes n).p.n, .slice D1 (s.goes n).votes.length e1, .int .i64 (s.goes n).index, .slice D2 (s.goes n).image.length e2, .slice D3 (s.goes n).entries.length e3]) rfl (H7.cellsR (i := 3) rfl rfl))<|OQ (EC gf26 rfl) (check_r (s.goes n) D1 e1 D2 e2 D3 e3 _ _ (hw1.toV H7 hkk) (hw2.to H7 hkk) (hw3.toE H7 hkk) (by omega) (by omega)) ?_
 rintro _ w8 ⟨e, rfl, hans, Hd⟩
 have H8 := H7.callN Hd
 refine OT (ex_neq rfl rfl) (fun hp94 => ?_) (fun hp94 => ?_)
 refine Xr e107<|J3 rfl<|Rq<|OV (EN ty27 rfl (vs := [.slice (some a1) b.groups.length k1, .slice A2 b.rights.length k2, .slice A3 b.last.length k3]) rfl (H8.cellsR (i := 0) rfl rfl))<|OS ty27 H8 2 rfl rfl rfl rfl rfl (by first | decide | (simp; done) | simp [putAt]) rfl<|fun w9 H9=>Xa rfl<|Xr e107<|J5<|fin_cell_tmp rfl ty27 (cs := [.slice (some a1) b.groups.length k1, .slice A2 b.rights.length k2, .slice A3 b.last.length k3]) rfl rfl rfl (H9.cellsR (i := 2) rfl rfl)<|⟨_, _, _, _, _, _, _, _, _, false, rfl, (fun b' hb' => by rw [into_no hp14 hs (by cases hc : chk (s.goes n) with | false => rfl | true => exact absurd (hans.1 hc) hp94)] at hb'; cases hb'), fun _ => rfl, (HG.all H9).noRows⟩
 have hchk : chk (s.goes n) = true := by cases hc : chk (s.goes n) with | true => rfl | false => have := hans.2 hc; omega
 refine Xr e107<|J4 rfl<|J6<|Rq<|Xf fl27_0 rfl<|OV (EL ty23 rfl (H8.cell (i := 0) rfl rfl))<|ops_grow Tryz.underlying23 ty57 (by decide) (H8.nil 57) 4 (Gw.nil 6) rfl rfl (rs := pg)  (m := b.groups.length) hgl rfl (hrg.to0 (HG.all H8)) hpg hong (by rw [List.length_nil]; omega) (by rw [List.length_nil]; omega) (by decide)<|fun w9 g2 cap2 sp2 H9 hG2=>?_
 rw [List.nil_append pg] at H9 hG2 ⊢
 rw [hgl]
 obtain ⟨gw, rfl⟩ := own_some H9 (i := 4) rfl (by rw [List.length_append, hpg.len]; omega)
 refine Xa rfl<|Xr e107<|Rq<|Xm rfl<|Xf fl45_1 rfl<|OV (EL ty3 rfl (H9.cell (i := 1) rfl rfl))<|OV (EN ty57 rfl (vs := [.int .i64 (s.goes n).p.r, .int .i64 (s.goes n).p.n, .slice D1 (s.goes n).votes.length e1, .int .i64 (s.goes n).index, .slice D2 (s.goes n).image.length e2, .slice D3 (s.goes n).entries.length e3]) rfl (H9.cellsR (i := 3) rfl rfl))<|cOp e107<|OV (ex_idxN Tryz.underlying23 ty57 rfl rfl (len := b.groups.length) (i := n.group.toNat) (by omega) (by omega))<|OS ty57 H9 4 rfl rfl rfl rfl rfl (by rw [List.length_append, hpg.len]; show 0 + n.group.toNat * 6 + 6 ≤ _; omega) rfl<|fun w10 H10=>?_
 rw [store_elem (sz := 6) (vs := [.int .i64 (s.goes n).p.r, .int .i64 (s.goes n).p.n, .slice D1 (s.goes n).votes.length e1, .int .i64 (s.goes n).index, .slice D2 (s.goes n).image.length e2, .slice D3 (s.goes n).entries.length e3]) hpg (by omega) rfl] at H10
 refine Xr e107<|Rq<|Xm rfl<|Xf fl27_0 rfl<|OW ty23 H10 0 rfl rfl rfl rfl (by first | (simp; done) | simp [putAt]) rfl<|fun w11 H11=>Xr e107<|Rq<|OV (EN ty27 rfl (vs := [.slice (hd (some gw)) b.groups.length cap2, .slice A2 b.rights.length k2, .slice A3 b.last.length k3]) rfl (H11.cellsR (i := 0) rfl rfl))<|OS ty27 H11 2 rfl rfl rfl rfl rfl (by first | decide | (simp; done) | simp [putAt]) rfl<|fun w12 H12=>Xa rfl<|Xr e107<|J5<|fin_cell_tmp rfl ty27 (cs := [.slice (hd (some gw)) b.groups.length cap2, .slice A2 b.rights.length k2, .slice A3 b.last.length k3]) rfl rfl rfl (H12.cellsR (i := 2) rfl rfl) ?_
 have HW := HG.all H12
 refine ⟨_, _, _, _, _, _, _, _, _, true, rfl, fun b' hb' => ?_, (fun h => by rw [into_yes hp14 (by omega) hs hchk] at h; cases h), HW.noRows⟩
 rw [into_yes hp14 (by omega) hs hchk] at hb'
 simp only [Option.some.injEq] at hb'
 subst hb'
 refine ⟨rfl, hd (some gw), cap2, A2, k2, A3, k3, by rw [List.length_set], ?_, hb2.toR HW up_k0, hb3.toM HW up_k0⟩
 exact Sl.row HW (i := 4) rfl (hpg.set_len rfl) (by decide) ((h2g.imp (R' := SvR w12 (up ok w0.heap.size)) fun p x h => h.to HW up_k0).set _ ⟨D1, e1, D2, e2, D3, e3, rfl, hw1.toV H12 hkk, hw2.to H12 hkk, hw3.toE H12 hkk⟩) (row_new (ok := ok) HW (i := 4) rfl (fun _ h => by cases h))
end Go.Proofs.YtbninklfoogmdaaGreat
