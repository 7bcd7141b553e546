/- Walks of layer 2, printed by wip/gen/codec.py. -/
import Derived.Test.YtbninklfoogmdaaGreatNf
import Derived.Test.YtbninklfoogmdaaGreatVs
import Derived.Test.YtbninklfoogmdaaGreatVaJ
namespace Go.Proofs.YtbninklfoogmdaaGreat
open Go Go.RowKit
set_option linter.unusedVariables false
attribute [local irreducible] Still Ops Does Cd
set_option maxRecDepth 100000 in
set_option maxHeartbeats 4000000 in
theorem place_s (A : Option Addr) (k : Nat) (l : List Mk) (c : Int) (ps : List (List Value)) (w0 : World) (hp : Pl 7 ps) (hr : Rd w0 A l.length 7 ps.flatten) (h2 : All2 MkR ps l) (hn : l.length ≤ 1000000) (hso : mksOk 0 l) : Does Tryz.prog 80 #[.slice A l.length k, .int .i64 c] w0 (fun r w' => ∃ (i : Nat) (f : Bool), r = .tuple #[.int .i64 (i : Int), .bool f] ∧ Found ps (mkCf c) i f ∧ Hp w0 w' [] []) := by
 refine does_of Tryz.func80 Tryz.ntmps80 rfl<|cR e11 ?_
 have H := Hp.refl w0
 have hlen := h2.len
 refine Rq<|Xa rfl<|Xa rfl<|Xr e11<|Rq<|Xm rfl<|Xm rfl<|OQ (EC gf98 rfl) (bsearchM A k ps l.length hlen 99 c (mkCf c) _ hp (by rw [hlen]; exact hr.to0 H) (by omega) (cmp_mark h2 (rise_mk (mks_rise hso).2 c))) ?_
 rintro _ w1 ⟨i, f, rfl, hfd, Hd⟩
 have H1 := H.callN Hd
 refine Xe rfl rfl<|cOp e11<|Xe rfl rfl<|Xa rfl<|Xa rfl<|Xr e11<|J5<|FN2 rfl rfl rfl<|⟨i, f, rfl, hfd, H1.noRows⟩
set_option maxRecDepth 100000 in
set_option maxHeartbeats 4000000 in
theorem find_s (A : Option Addr) (k : Nat) (l : List Mk) (c : Int) (ok : Nat → Prop) (w0 : World) (hl : Sl MkR 7 w0 ok A l) (hn : l.length ≤ 1000000) (hso : mksOk 0 l) : Does Tryz.prog 57 #[.slice A l.length k, .int .i64 c] w0 (fun r w' => ∃ (m : Mk) (f : Bool), r = .tuple #[.agg (mkC m).toArray, .bool f] ∧ (f = true → findMk l c = some m) ∧ (f = false → findMk l c = none) ∧ Hp w0 w' [] []) := by
 refine does_of Tryz.func57 Tryz.ntmps57 rfl<|cR e25 ?_
 have H := Hp.refl w0
 obtain ⟨ps, hp, hr, ha, h2⟩ := id hl
 have hlen := h2.len
 refine Rq<|OA ty63 H<|fun w1 g1 H1 hg1=>Xa rfl<|Xr e25<|J1<|Rq<|Xm rfl<|OC (EC gf79 rfl) (check_s A k l ok _ (hl.toM H1 k0) (by omega) hso)<|fun w2 Hd=>have H2:=H1.callN Hd;OT0 (ex_neq rfl rfl) (by decide)<|Xr e25<|J4 rfl<|J6<|Rq<|Xm rfl<|Xm rfl<|OQ (EC gf80 rfl) (place_s A k l c ps _ hp (hr.to0 H2) h2 hn hso) ?_
 rintro _ w3 ⟨i, f, rfl, hfd, Hd⟩
 have H3 := H2.callN Hd
 obtain ⟨hyes, hno⟩ := find_found hfd h2 (mks_rise hso).2
 cases f
 refine Xm rfl<|Xe rfl rfl<|cOp e25<|Xe rfl rfl<|Xa rfl<|Xa rfl<|Xr e25<|J1<|Rq<|Xm rfl<|Xn rfl<|Xr e25<|J3 rfl<|Rq<|OV (EB ty63 pl63 rfl rfl)<|OS ty63 H3 0 rfl rfl rfl rfl rfl (by first | decide | (simp; done) | simp [putAt]) rfl<|fun w4 H4=>Xa rfl<|Xr e25<|J5<|fin_cell_tmp rfl ty63 (cs := mkC ⟨0, 0⟩) rfl rfl rfl (H4.cellsR (i := 0) rfl rfl)<|⟨⟨0, 0⟩, false, rfl, (fun h => by cases h), fun _ => hno rfl, H4.noRows⟩
 obtain ⟨x, hx, hfx⟩ := hyes rfl
 obtain ⟨p1, hp1, hR⟩ := h2.get hx
 unfold MkR at hR
 subst hR
 obtain ⟨a1, ha1⟩ := hr.some_ (by have := lt_of_get hx; omega)
 subst ha1
 refine Xm rfl<|Xe rfl rfl<|cOp e25<|Xe rfl rfl<|Xa rfl<|Xa rfl<|Xr e25<|J1<|Rq<|Xm rfl<|Xn rfl<|Xr e25<|J4 rfl<|J6<|Rq<|Xm rfl<|Xm rfl<|OV (EI Tryz.underlying25 ty63 rfl rfl rfl (lt_of_get hx) rfl)<|OV (EN ty63 rfl (vs := mkC x) rfl ((hr.to0 H3).elem hp hp1))<|cOp e25<|OS ty63 H3 0 rfl rfl rfl rfl rfl (by first | decide | (simp; done) | simp [putAt]) rfl<|fun w4 H4=>Xa rfl<|Xr e25<|J5<|fin_cell_tmp rfl ty63 (cs := mkC x) rfl rfl rfl (H4.cellsR (i := 0) rfl rfl)<|⟨x, true, rfl, fun _ => hfx, (fun h => by cases h), H4.noRows⟩
set_option maxRecDepth 100000 in
set_option maxHeartbeats 4000000 in
theorem table_v (n : Int) (w0 : World) : Does Tryz.prog 35 #[.int .i64 n] w0 (fun r w' => ((n < 1 ∨ 4 < n) → r = .nilFunc) ∧ (n = 1 → r = .func (.func 61) #[] #[]) ∧ (n = 2 → r = .func (.func 62) #[] #[]) ∧ (n = 3 → r = .func (.func 63) #[] #[]) ∧ (n = 4 → r = .func (.func 64) #[] #[]) ∧ Hp w0 w' [] []) := by
 refine does_of Tryz.func35 Tryz.ntmps35 rfl<|cR e12 ?_
 have H := Hp.refl w0
 refine Rq<|Xa rfl<|Xr e12<|J1<|Rq<|Xm rfl<|OT (ex_lss rfl rfl) (fun hp4 => ?_) (fun hp4 => ?_)
 refine Xm rfl<|cOp e12<|OZ rfl<|OZ rfl<|Xt rfl rfl<|Xr e12<|J3 rfl<|Rq<|Xa rfl<|Xr e12<|J5<|FN1 rfl rfl ?_
 refine ⟨fun _ => rfl, fun h => by omega, fun h => by omega, fun h => by omega, fun h => by omega, H.noRows⟩
 refine Xm rfl<|cOp e12<|OY rfl<|Xm rfl<|OY rfl<|OT (ex_gtr rfl rfl) (fun hp7 => ?_) (fun hp7 => ?_)
 refine Xu rfl rfl<|Xr e12<|J3 rfl<|Rq<|Xa rfl<|Xr e12<|J5<|FN1 rfl rfl ?_
 refine ⟨fun _ => rfl, fun h => by omega, fun h => by omega, fun h => by omega, fun h => by omega, H.noRows⟩
 refine Xu rfl rfl<|Xr e12<|J4 rfl<|J6<|Rq<|OV (ex_buildA ty103 Tryz.underlying103 ty77 rfl rfl)<|Xm rfl ?_
 obtain hk | hk | hk | hk : n = 1 ∨ n = 2 ∨ n = 3 ∨ n = 4 := by omega
 subst hk
 refine OV (ex_indexA1 Tryz.underlying103 ty77 rfl rfl (i := 1) rfl (by decide) rfl)<|Xa rfl<|Xr e12<|J5<|FN1 rfl rfl ?_
 refine ⟨fun h => by omega, fun _ => rfl, fun h => by omega, fun h => by omega, fun h => by omega, H.noRows⟩
 subst hk
 refine OV (ex_indexA1 Tryz.underlying103 ty77 rfl rfl (i := 2) rfl (by decide) rfl)<|Xa rfl<|Xr e12<|J5<|FN1 rfl rfl ?_
 refine ⟨fun h => by omega, fun h => by omega, fun _ => rfl, fun h => by omega, fun h => by omega, H.noRows⟩
 subst hk
 refine OV (ex_indexA1 Tryz.underlying103 ty77 rfl rfl (i := 3) rfl (by decide) rfl)<|Xa rfl<|Xr e12<|J5<|FN1 rfl rfl ?_
 refine ⟨fun h => by omega, fun h => by omega, fun h => by omega, fun _ => rfl, fun h => by omega, H.noRows⟩
 subst hk
 refine OV (ex_indexA1 Tryz.underlying103 ty77 rfl rfl (i := 4) rfl (by decide) rfl)<|Xa rfl<|Xr e12<|J5<|FN1 rfl rfl ?_
 refine ⟨fun h => by omega, fun h => by omega, fun h => by omega, fun h => by omega, fun _ => rfl, H.noRows⟩
end Go.Proofs.YtbninklfoogmdaaGreat
