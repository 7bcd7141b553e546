/- Walks of layer 2, printed by wip/gen/codec.py. -/
import Derived.Test.YtbninklfoogmdaaGreatNf
import Derived.Test.YtbninklfoogmdaaGreatVq
import Derived.Test.YtbninklfoogmdaaGreatVaC
import Derived.Test.YtbninklfoogmdaaGreatVaD
import Derived.Test.YtbninklfoogmdaaGreatVaE
namespace Go.Proofs.YtbninklfoogmdaaGreat
open Go Go.RowKit
set_option linter.unusedVariables false
attribute [local irreducible] Still Ops Does Cd
set_option maxRecDepth 100000 in
set_option maxHeartbeats 4000000 in
theorem voteC (s n : Int) (c1 c2 c3 : Value) (w0 : World) : Does Tryz.prog 87 #[.agg [.int .i64 s, c1, c2, c3].toArray, .int .i64 n] w0 (fun r w' => r = .int .i64 (cmpI s n) ∧ Hp w0 w' [] []) := by
 refine does_of Tryz.func87 Tryz.ntmps87 rfl<|cR e15 ?_
 have H := Hp.refl w0
 refine Rq<|ops_box rfl rfl H<|fun w1 g1 H1 hg1=>Xa rfl<|Xr e15<|J1<|J7<|Rq<|Xf fl39_0 rfl<|OV (EL ty3 rfl (H1.cell (i := 0) rfl rfl))<|Xm rfl<|OT (ex_lss rfl rfl) (fun hp9 => ?_) (fun hp9 => ?_)
 refine Xa rfl<|Xr e15<|J3 rfl<|Rq<|Xa rfl<|Xr e15<|J5<|BR<|FN1 rfl rfl<|⟨by unfold cmpI; rw [if_pos (by omega)], H1.noRows⟩
 refine Xa rfl<|Xr e15<|J4 rfl<|Rq<|Xf fl39_0 rfl<|OV (EL ty3 rfl (H1.cell (i := 0) rfl rfl))<|Xm rfl<|OT (ex_gtr rfl rfl) (fun hp14 => ?_) (fun hp14 => ?_)
 refine Xa rfl<|Xr e15<|J3 rfl<|Rq<|Xa rfl<|Xr e15<|J5<|BR<|FN1 rfl rfl<|⟨by unfold cmpI; rw [if_neg (by omega), if_pos (by omega)], H1.noRows⟩
 refine Xa rfl<|Xr e15<|J4 rfl<|J6<|run_nil (blk_normal ?_)
 refine Rq<|Xa rfl<|Xr e15<|J5<|FN1 rfl rfl<|⟨by unfold cmpI; rw [if_neg (by omega), if_neg (by omega)], H1.noRows⟩
set_option maxRecDepth 100000 in
set_option maxHeartbeats 4000000 in
theorem placeC (s n : Int) (c1 c2 c3 c4 c5 c6 : Value) (w0 : World) : Does Tryz.prog 99 #[.agg [.int .i64 s, c1, c2, c3, c4, c5, c6].toArray, .int .i64 n] w0 (fun r w' => r = .int .i64 (cmpI s n) ∧ Hp w0 w' [] []) := by
 refine does_of Tryz.func99 Tryz.ntmps99 rfl<|cR e15 ?_
 have H := Hp.refl w0
 refine Rq<|ops_box rfl rfl H<|fun w1 g1 H1 hg1=>Xa rfl<|Xr e15<|J1<|J7<|Rq<|Xf fl63_0 rfl<|OV (EL ty3 rfl (H1.cell (i := 0) rfl rfl))<|Xm rfl<|OT (ex_lss rfl rfl) (fun hp9 => ?_) (fun hp9 => ?_)
 refine Xa rfl<|Xr e15<|J3 rfl<|Rq<|Xa rfl<|Xr e15<|J5<|BR<|FN1 rfl rfl<|⟨by unfold cmpI; rw [if_pos (by omega)], H1.noRows⟩
 refine Xa rfl<|Xr e15<|J4 rfl<|Rq<|Xf fl63_0 rfl<|OV (EL ty3 rfl (H1.cell (i := 0) rfl rfl))<|Xm rfl<|OT (ex_gtr rfl rfl) (fun hp14 => ?_) (fun hp14 => ?_)
 refine Xa rfl<|Xr e15<|J3 rfl<|Rq<|Xa rfl<|Xr e15<|J5<|BR<|FN1 rfl rfl<|⟨by unfold cmpI; rw [if_neg (by omega), if_pos (by omega)], H1.noRows⟩
 refine Xa rfl<|Xr e15<|J4 rfl<|J6<|run_nil (blk_normal ?_)
 refine Rq<|Xa rfl<|Xr e15<|J5<|FN1 rfl rfl<|⟨by unfold cmpI; rw [if_neg (by omega), if_neg (by omega)], H1.noRows⟩
set_option maxRecDepth 100000 in
set_option maxHeartbeats 4000000 in
theorem behindC (s n : Int) (c1 c2 c3 : Value) (w0 : World) (gc : Nat) (gcs : List Value) (Tc : TypeId) (hgc : w0.heap[gc]? = some (.cells gcs.toArray Tc (0, 0))) (hv : gcs[0]? = some (.int .i64 n)) : Does Tryz.prog 104 #[.agg [.int .i64 s, c1, c2, c3].toArray, .pointer (some ⟨gc, 0, none⟩)] w0 (fun r w' => r = .bool (decide (s ≤ n)) ∧ Hp w0 w' [] []) := by
 refine does_of Tryz.func104 Tryz.ntmps104 rfl<|cR e8 ?_
 have H := Hp.refl w0
 refine Rq<|ops_box rfl rfl H<|fun w1 g1 H1 hg1=>Xa rfl<|Xr e8<|Rq<|Xf fl39_0 rfl<|OV (EL ty3 rfl (H1.cell (i := 0) rfl rfl))<|OV (EL ty3 rfl (cell_at (H1.keep hgc (by simp)) hv))<|OT (ex_leq rfl rfl) (fun hp7 => ?_) (fun hp7 => ?_)
 refine Xa rfl<|Xr e8<|J5<|FN1 rfl rfl<|⟨bt (by omega), H1.noRows⟩
 refine Xa rfl<|Xr e8<|J5<|FN1 rfl rfl<|⟨bf (by omega), H1.noRows⟩
set_option maxRecDepth 100000 in
set_option maxHeartbeats 4000000 in
theorem imageC (s n : Int) (c1 : Value) (w0 : World) (gc : Nat) (gcs : List Value) (Tc : TypeId) (hgc : w0.heap[gc]? = some (.cells gcs.toArray Tc (0, 0))) (hv : gcs[0]? = some (.int .i64 n)) : Does Tryz.prog 91 #[.agg [.int .i64 s, c1].toArray, .pointer (some ⟨gc, 0, none⟩)] w0 (fun r w' => r = .bool (decide (s ≤ n)) ∧ Hp w0 w' [] []) := by
 refine does_of Tryz.func91 Tryz.ntmps91 rfl<|cR e9 ?_
 have H := Hp.refl w0
 refine Rq<|ops_box rfl rfl H<|fun w1 g1 H1 hg1=>Xa rfl<|Xr e9<|Rq<|Xf fl41_0 rfl<|OV (EL ty3 rfl (H1.cell (i := 0) rfl rfl))<|Xf fl41_0 rfl<|OV (EL ty3 rfl (cell_at (H1.keep hgc (by simp)) hv))<|cOp e9<|OT (ex_leq rfl rfl) (fun hp8 => ?_) (fun hp8 => ?_)
 refine Xa rfl<|Xr e9<|J5<|FN1 rfl rfl<|⟨bt (by omega), H1.noRows⟩
 refine Xa rfl<|Xr e9<|J5<|FN1 rfl rfl<|⟨bf (by omega), H1.noRows⟩
set_option maxRecDepth 100000 in
set_option maxHeartbeats 4000000 in
theorem spentC (s n : Int) (c1 c2 c3 c4 c5 c6 : Value) (w0 : World) (gc : Nat) (gcs : List Value) (Tc : TypeId) (hgc : w0.heap[gc]? = some (.cells gcs.toArray Tc (0, 0))) (hv : gcs[14]? = some (.int .i64 n)) : Does Tryz.prog 59 #[.agg [.int .i64 s, c1, c2, c3, c4, c5, c6].toArray, .pointer (some ⟨gc, 0, none⟩)] w0 (fun r w' => r = .bool (decide (s = n)) ∧ Hp w0 w' [] []) := by
 refine does_of Tryz.func59 Tryz.ntmps59 rfl<|cR e9 ?_
 have H := Hp.refl w0
 refine Rq<|ops_box rfl rfl H<|fun w1 g1 H1 hg1=>Xa rfl<|Xr e9<|Rq<|Xf fl63_0 rfl<|OV (EL ty3 rfl (H1.cell (i := 0) rfl rfl))<|Xf fl45_6 rfl<|OV (EL ty3 rfl (cell_at (H1.keep hgc (by simp)) hv))<|cOp e9<|OT (ex_eql rfl rfl) (fun hp8 => ?_) (fun hp8 => ?_)
 refine Xa rfl<|Xr e9<|J5<|FN1 rfl rfl<|⟨bt (by omega), H1.noRows⟩
 refine Xa rfl<|Xr e9<|J5<|FN1 rfl rfl<|⟨bf (by omega), H1.noRows⟩
set_option maxRecDepth 100000 in
set_option maxHeartbeats 4000000 in
theorem cmpstr (a b : Blk) (w0 : World) : Does Tryz.prog 109 #[strV a, strV b] w0 (fun r w' => r = .int .i64 (Lib.compareBytes a b) ∧ Hp w0 w' [] []) := by
 refine does_of Tryz.func109 Tryz.ntmps109 rfl<|cR e8 ?_
 have H := Hp.refl w0
 refine Rq<|Xa rfl<|Xr e8<|Rq<|Xm rfl<|Xm rfl<|ops_extern (fn := (Tryz.prog.funcs[114]?).get!) (e := Extern.BytealgCompare.compare) (v := .int .i64 (Lib.compareBytes a b)) (by kernel_rfl) (by kernel_rfl) (by kernel_rfl) (by kernel_rfl) (by kernel_rfl) rfl (Lib.run_compareString ⟨a.toArray⟩ ⟨b.toArray⟩ _)<|Xa rfl<|Xr e8<|J5<|FN1 rfl rfl<|⟨rfl, H⟩
set_option maxRecDepth 100000 in
set_option maxHeartbeats 4000000 in
theorem strcmp (a b : Blk) (w0 : World) : Does Tryz.prog 95 #[strV a, strV b] w0 (fun r w' => r = .int .i64 (Lib.compareBytes a b) ∧ Hp w0 w' [] []) := by
 refine does_of Tryz.func95 Tryz.ntmps95 rfl<|cR e8 ?_
 have H := Hp.refl w0
 refine Rq<|Xa rfl<|Xr e8<|Rq<|Xm rfl<|Xm rfl<|OC (EC gf109 rfl) (cmpstr _ _ _)<|fun w1 Hd=>have H1:=H.callN Hd;Xa rfl<|Xr e8<|J5<|FN1 rfl rfl<|⟨rfl, H1⟩
set_option maxRecDepth 100000 in
set_option maxHeartbeats 4000000 in
theorem orderC (a b : Rt) (w0 : World) : Does Tryz.prog 77 #[.agg [.int .i64 a.g, strV a.key, .int .i64 a.lease, .int .i64 a.net].toArray, .agg [.int .i64 b.g, strV b.key, .int .i64 b.lease, .int .i64 b.net].toArray] w0 (fun r w' => r = .int .i64 (ordR a b) ∧ Hp w0 w' [] []) := by
 refine does_of Tryz.func77 Tryz.ntmps77 rfl<|cR e20 ?_
 have H := Hp.refl w0
 refine Rq<|ops_box rfl rfl H<|fun w1 g1 H1 hg1=>ops_box rfl rfl H1<|fun w2 g2 H2 hg2=>Xa rfl<|Xr e20<|J1<|Rq<|Xf fl43_0 rfl<|OV (EL ty3 rfl (H2.cell (i := 0) rfl rfl))<|Xf fl43_0 rfl<|OV (EL ty3 rfl (H2.cell (i := 1) rfl rfl))<|cOp e20<|OT (ex_neq rfl rfl) (fun hp9 => ?_) (fun hp9 => ?_)
 refine Xr e20<|J3 rfl<|J1<|Rq<|Xf fl43_0 rfl<|OV (EL ty3 rfl (H2.cell (i := 0) rfl rfl))<|Xf fl43_0 rfl<|OV (EL ty3 rfl (H2.cell (i := 1) rfl rfl))<|cOp e20<|OT (ex_lss rfl rfl) (fun hp14 => ?_) (fun hp14 => ?_)
 refine Xr e20<|J3 rfl<|Rq<|Xa rfl<|Xr e20<|J5<|FN1 rfl rfl<|⟨by unfold ordR; rw [if_pos (by omega), if_pos (by omega)], H2.noRows⟩
 refine Xr e20<|J4 rfl<|J6<|Rq<|Xa rfl<|Xr e20<|J5<|FN1 rfl rfl<|⟨by unfold ordR; rw [if_pos (by omega), if_neg (by omega)], H2.noRows⟩
 refine Xr e20<|J4 rfl<|J6<|Rq<|Xf fl43_1 rfl<|OV (EL ty9 rfl (H2.cell (i := 0) rfl rfl))<|Xf fl43_1 rfl<|OV (EL ty9 rfl (H2.cell (i := 1) rfl rfl))<|cOp e20<|OC (EC gf95 rfl) (strcmp _ _ _)<|fun w3 Hd=>have H3:=H2.callN Hd;Xa rfl<|Xr e20<|J5<|FN1 rfl rfl<|⟨by unfold ordR; rw [if_neg (by omega)], H3.noRows⟩
theorem cmp_vote {w : World} {ok : Nat → Prop} {n : Int} {ps : List (List Value)} {l : List Vt} (h2 : All2 (VtR w ok) ps l) (hr : Rise (fun x : Vt => cmpI x.slot n) l) : Cmp Tryz.prog 87 (.int .i64 n) (vtCf n) ps :=
  ⟨gf87, fun w1 p hp => by
    obtain ⟨i, hi⟩ := List.getElem?_of_mem hp
    obtain ⟨x, _, hR⟩ := h2.getL hi
    obtain ⟨A, k, rfl, _⟩ := hR
    exact voteC x.slot n _ _ _ w1, hr.mono h2 fun p x h => vtCf_eq h⟩
theorem cmp_mark {n : Int} {ps : List (List Value)} {l : List Mk} (h2 : All2 MkR ps l) (hr : Rise (fun x : Mk => cmpI x.client n) l) : Cmp Tryz.prog 99 (.int .i64 n) (mkCf n) ps :=
  ⟨gf99, fun w1 p hp => by
    obtain ⟨i, hi⟩ := List.getElem?_of_mem hp
    obtain ⟨x, _, hR⟩ := h2.getL hi
    unfold MkR at hR
    subst hR
    exact placeC x.client n _ _ _ _ _ _ w1, hr.mono h2 fun p x h => mkCf_eq h⟩
theorem cmp_right {r : Rt} {ps : List (List Value)} {l : List Rt} (h2 : All2 RtR ps l) (hr : Rise (fun x : Rt => ordR x r) l) : Cmp Tryz.prog 77 (.agg (rtC r).toArray) (rtCf r) ps :=
  ⟨gf77, fun w1 p hp => by
    obtain ⟨i, hi⟩ := List.getElem?_of_mem hp
    obtain ⟨x, _, hR⟩ := h2.getL hi
    have e := rtCf_eq (r := r) hR
    unfold RtR at hR
    subst hR
    rw [e]
    exact orderC x r w1, hr.mono h2 fun p x h => rtCf_eq h⟩
theorem prd_behind {w w0 : World} {ok : Nat → Prop} {n : Int} {gc : Nat} {gcs : List Value} {Tc : TypeId} {ps : List (List Value)} {l : List Vt} (h2 : All2 (VtR w ok) ps l) (hgc : w0.heap[gc]? = some (.cells gcs.toArray Tc (0, 0))) (hv : gcs[0]? = some (.int .i64 n)) : Prd Tryz.prog 104 gc (vtLe n) ps w0 :=
  ⟨gf104, (Array.getElem?_eq_some_iff.1 hgc).1, fun w1 h1 p hp => by
    obtain ⟨i, hi⟩ := List.getElem?_of_mem hp
    obtain ⟨x, _, hR⟩ := h2.getL hi
    obtain ⟨A, k, rfl, _⟩ := hR
    exact behindC x.slot n _ _ _ w1 gc gcs Tc (h1.trans hgc) hv⟩
theorem prd_image {w w0 : World} {ok : Nat → Prop} {n : Int} {gc : Nat} {gcs : List Value} {Tc : TypeId} {ps : List (List Value)} {l : List En} (h2 : All2 (EnR w ok) ps l) (hgc : w0.heap[gc]? = some (.cells gcs.toArray Tc (0, 0))) (hv : gcs[0]? = some (.int .i64 n)) : Prd Tryz.prog 91 gc (vtLe n) ps w0 :=
  ⟨gf91, (Array.getElem?_eq_some_iff.1 hgc).1, fun w1 h1 p hp => by
    obtain ⟨i, hi⟩ := List.getElem?_of_mem hp
    obtain ⟨x, _, hR⟩ := h2.getL hi
    obtain ⟨A, k, rfl, _⟩ := hR
    exact imageC x.slot n _ w1 gc gcs Tc (h1.trans hgc) hv⟩
theorem prd_spent {w0 : World} {n : Int} {gc : Nat} {gcs : List Value} {Tc : TypeId} {ps : List (List Value)} {l : List Mk} (h2 : All2 MkR ps l) (hgc : w0.heap[gc]? = some (.cells gcs.toArray Tc (0, 0))) (hv : gcs[14]? = some (.int .i64 n)) : Prd Tryz.prog 59 gc (mkIs n) ps w0 :=
  ⟨gf59, (Array.getElem?_eq_some_iff.1 hgc).1, fun w1 h1 p hp => by
    obtain ⟨i, hi⟩ := List.getElem?_of_mem hp
    obtain ⟨x, _, hR⟩ := h2.getL hi
    unfold MkR at hR
    subst hR
    exact spentC x.client n _ _ _ _ _ _ w1 gc gcs Tc (h1.trans hgc) hv⟩
end Go.Proofs.YtbninklfoogmdaaGreat
