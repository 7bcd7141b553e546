/- Walks of layer 2, printed by wip/gen/codec.py. -/
import Derived.Test.YtbninklfoogmdaaGreatNf
import Derived.Test.YtbninklfoogmdaaGreatVx
import Derived.Test.YtbninklfoogmdaaGreatVaQ
namespace Go.Proofs.YtbninklfoogmdaaGreat
open Go Go.RowKit
set_option linter.unusedVariables false
attribute [local irreducible] Still Ops Does Cd
set_option maxRecDepth 100000 in
set_option maxHeartbeats 32000000 in
theorem goes_r (s : Sv) (A1 : Option Addr) (k1 : Nat) (A2 : Option Addr) (k2 : Nat) (A3 : Option Addr) (k3 : Nat) (n : Nt) (B1 : Option Addr) (j1 : Nat) (B2 : Option Addr) (j2 : Nat) (ok : Nat → Prop) (w0 : World) (hv1 : Sl (VtR w0 ok) 4 w0 ok A1 s.votes) (hv2 : Bs w0 ok A2 s.image) (hv3 : Sl (EnR w0 ok) 2 w0 ok A3 s.entries) (hbv : Bs w0 ok B1 n.vote.val) (hbe : Bs w0 ok B2 n.entry.val) (hk : 1 ≤ n.kind ∧ n.kind ≤ 4) (hi : 0 ≤ s.index ∧ s.index ≤ 1099511627776) (he : s.entries.length ≤ 1099511627776) (hvl : s.votes.length ≤ 1000) (hes : ∀ x ∈ s.entries, x.slot ≤ 1099511627776) : Does Tryz.prog 25 #[.agg [.int .i64 s.p.r, .int .i64 s.p.n, .slice A1 s.votes.length k1, .int .i64 s.index, .slice A2 s.image.length k2, .slice A3 s.entries.length k3].toArray, .agg [.int .i64 n.kind, .int .i64 n.group, .int .i64 n.b.r, .int .i64 n.b.n, .int .i64 n.vote.slot, .int .i64 n.vote.b.r, .int .i64 n.vote.b.n, .slice B1 n.vote.val.length j1, .int .i64 n.entry.slot, .slice B2 n.entry.val.length j2, .int .i64 n.right.g, strV n.right.key, .int .i64 n.right.lease, .int .i64 n.right.net, .int .i64 n.client, .int .i64 n.seq].toArray] w0 (fun r w' => ∃ cs', r = .agg cs'.toArray ∧ SvR w' (up ok w0.heap.size) cs' (s.goes n) ∧ Hp w0 w' [] []) := by
 refine does_of Tryz.func25 Tryz.ntmps25 rfl<|cR e122 ?_
 have H := Hp.refl w0
 obtain ⟨pv, hpv, hrv, _, hav2⟩ := id hv1
 obtain ⟨pe, hpe, hre, _, he2⟩ := id hv3
 have hvl2 := hav2.len
 have hel := he2.len
 have hone := he2.ones fun _ _ h => h.ones
 refine Rq<|ops_box rfl rfl H<|fun w1 gs H1 _=>ops_box rfl rfl H1<|fun w2 gn H2 _=>OA ty57 H2<|fun w3 gr H3 _=>Xr e122<|J1<|Rq<|Xf fl45_0 rfl<|OV (EL ty3 rfl (H3.cell (i := 1) rfl rfl))<|Xr e122<|J7<|Rq<|OT (ex_eql rfl rfl) (fun hp10 => ?_) (fun hp10 => ?_)
 refine Xa rfl<|Xr e122<|J3 rfl<|J2<|Xf fl45_2 rfl<|OV (EN ty36 rfl (vs := [.int .i64 n.b.r, .int .i64 n.b.n]) rfl (H3.cellsR (i := 1) rfl rfl))<|OQ (EC gf42 rfl) (raise_r gs s.p n.b _ _ _ _ _ (H3.at (i := 0) rfl)) ?_
 rintro _ w4 Hd
 have H4 := (H3.callr [0] rfl Hd).pick [3, 1, 2] (by decide)
 refine Xr e122<|run_nil (blk_normal ?_)
 refine Rq<|OV (EN ty57 rfl (vs := [.int .i64 (rz s.p n.b).r, .int .i64 (rz s.p n.b).n, .slice A1 s.votes.length k1, .int .i64 s.index, .slice A2 s.image.length k2, .slice A3 s.entries.length k3]) rfl (H4.cellsR (i := 0) rfl rfl))<|OS ty57 H4 2 rfl rfl rfl rfl rfl (by first | decide | (simp; done) | simp [putAt]) rfl<|fun w5 H5=>Xr e122<|J5<|fin_cell rfl ty57 (cs := [.int .i64 (rz s.p n.b).r, .int .i64 (rz s.p n.b).n, .slice A1 s.votes.length k1, .int .i64 s.index, .slice A2 s.image.length k2, .slice A3 s.entries.length k3]) rfl rfl (H5.cellsR (i := 2) rfl rfl)<|⟨_, rfl, ?_, H5.noRows⟩
 rw [goes1 hp10, raise_eq]
 exact ⟨A1, k1, A2, k2, A3, k3, rfl, hv1.toV H5 up_k0, hv2.to H5 up_k0, hv3.toE H5 up_k0⟩
 refine Xa rfl<|Xr e122<|J4 rfl<|Rq<|OT (ex_eql rfl rfl) (fun hp15 => ?_) (fun hp15 => ?_)
 refine Xa rfl<|Xr e122<|J3 rfl<|J1<|run_mixZ 5 [(true, 0), (true, 1), (true, 2), (true, 3), (false, 4), (false, 5)] H3 [0, 1, 2] mixed (by decide) (by kernel_rfl) ?_
 rintro w4 hw4
 have H4 := Hp.drew H3; rw [← hw4] at H4
 refine Zf rfl fl45_3 rfl<|Zf rfl fl39_0 rfl<|MP rfl<|MV (fun wz hz => EL ty3 rfl (hz.cell (i := 1) rfl rfl))<|MP rfl<|MV (fun wz hz => EN ty57 rfl (vs := [.int .i64 s.p.r, .int .i64 s.p.n, .slice A1 s.votes.length k1, .int .i64 s.index, .slice A2 s.image.length k2, .slice A3 s.entries.length k3]) rfl (hz.cellsR (i := 0) rfl rfl))<|cZ e122<|MO rfl<|OC (EC gf43 rfl) (last_r s A1 k1 A2 k2 A3 k3 _ ⟨by omega, by omega⟩ (by omega))<|fun w5 Hd=>have H5:=H4.callN Hd;OE<|⟨fun hne => H5.pick [0, 1, 2] (by decide), ?_⟩
 refine cZ e122<|MO rfl<|OT (ex_gtr rfl rfl) (fun hp21 => ?_) (fun hp21 => ?_)
 refine OE ?_
 refine ⟨fun hne => absurd rfl hne, ?_⟩
 refine ME<|cR e122<|J3 rfl<|Rq<|Xf fl57_1 rfl<|OV (EL ty54 rfl (H5.cell (i := 0) rfl rfl))<|Xf fl45_3 rfl<|OV (EN ty39 rfl (vs := [.int .i64 n.vote.slot, .int .i64 n.vote.b.r, .int .i64 n.vote.b.n, .slice B1 n.vote.val.length j1]) rfl (H5.cellsR (i := 1) rfl rfl))<|cOp e122<|OQ (EC gf44 rfl) (vote_r A1 k1 pv s.votes n.vote B1 j1 ok _ hpv (hrv.to0 H5) (hav2.imp fun p x h => h.to H5 k0) (by omega)) ?_
 rintro _ w6 ⟨g4, cap4, sp4, rfl, hG4, Hc⟩
 have H6 := H5.call0 Hc
 have hVL : (pv.filter (vtLt n.vote.slot) ++ ([[.int .i64 n.vote.slot, .int .i64 n.vote.b.r, .int .i64 n.vote.b.n, .slice B1 n.vote.val.length j1]] : List (List Value)) ++ pv.filter fun p => !vtLe n.vote.slot p).length = (putVt s.votes n.vote).length := (putVt_rows hav2 ⟨B1, j1, rfl, hbv⟩).len
 rw [hVL]
 refine Xf fl57_1 rfl<|OW ty54 H6 0 rfl rfl rfl rfl (by first | (simp; done) | simp [putAt]) rfl<|fun w7 H7=>Xr e122<|J2<|Xf fl45_3 rfl<|Xf fl39_1 rfl<|OV (EN ty36 rfl (vs := [.int .i64 n.vote.b.r, .int .i64 n.vote.b.n]) rfl (H7.cellsR (i := 1) rfl rfl))<|OQ (EC gf42 rfl) (raise_r gs s.p n.vote.b _ _ _ _ _ (H7.at (i := 0) rfl)) ?_
 rintro _ w8 Hd
 have H8 := (H7.callr [0] rfl Hd).pick [4, 1, 2, 3] (by decide)
 refine Xr e122<|run_nil (blk_normal ?_)
 refine Rq<|OV (EN ty57 rfl (vs := [.int .i64 (rz s.p n.vote.b).r, .int .i64 (rz s.p n.vote.b).n, .slice (hd g4) (putVt s.votes n.vote).length cap4, .int .i64 s.index, .slice A2 s.image.length k2, .slice A3 s.entries.length k3]) rfl (H8.cellsR (i := 0) rfl rfl))<|OS ty57 H8 2 rfl rfl rfl rfl rfl (by first | decide | (simp; done) | simp [putAt]) rfl<|fun w9 H9=>Xr e122<|J5<|fin_cell rfl ty57 (cs := [.int .i64 (rz s.p n.vote.b).r, .int .i64 (rz s.p n.vote.b).n, .slice (hd g4) (putVt s.votes n.vote).length cap4, .int .i64 s.index, .slice A2 s.image.length k2, .slice A3 s.entries.length k3]) rfl rfl (H9.cellsR (i := 2) rfl rfl)<|⟨_, rfl, ?_, H9.noRows⟩
 rw [goes2 hp15, if_neg (by unfold Sv.last; omega), raise_eq]
 exact ⟨hd g4, cap4, A2, k2, A3, k3, rfl, Sl.row H9 (i := 3) rfl hG4.2.2.2 (by decide) (putVt_rows (hav2.imp fun p x h => h.to H9 up_k0) ⟨B1, j1, rfl, hbv.to H9 up_k0⟩) (row_new H9 (i := 3) rfl (fun _ h => by cases h)), hv2.to H9 up_k0, hv3.toE H9 up_k0⟩
 refine OE ?_
 refine ⟨fun hne => absurd rfl hne, ?_⟩
 refine ME<|cR e122<|J4 rfl<|J6<|run_nil (blk_normal ?_)
 refine Rq<|OV (EN ty57 rfl (vs := [.int .i64 s.p.r, .int .i64 s.p.n, .slice A1 s.votes.length k1, .int .i64 s.index, .slice A2 s.image.length k2, .slice A3 s.entries.length k3]) rfl (H5.cellsR (i := 0) rfl rfl))<|OS ty57 H5 2 rfl rfl rfl rfl rfl (by first | decide | (simp; done) | simp [putAt]) rfl<|fun w6 H6=>Xr e122<|J5<|fin_cell rfl ty57 (cs := [.int .i64 s.p.r, .int .i64 s.p.n, .slice A1 s.votes.length k1, .int .i64 s.index, .slice A2 s.image.length k2, .slice A3 s.entries.length k3]) rfl rfl (H6.cellsR (i := 2) rfl rfl)<|⟨_, rfl, ?_, H6.noRows⟩
 rw [goes2 hp15, if_pos (by unfold Sv.last; omega)]
 exact ⟨A1, k1, A2, k2, A3, k3, rfl, hv1.toV H6 up_k0, hv2.to H6 up_k0, hv3.toE H6 up_k0⟩
 refine Xa rfl<|Xr e122<|J4 rfl<|Rq<|OT (ex_eql rfl rfl) (fun hp33 => ?_) (fun hp33 => ?_)
 refine Xa rfl<|Xr e122<|J3 rfl<|J1<|run_mixZ 6 [(true, 0), (true, 1), (true, 2), (true, 3), (false, 4), (true, 5), (false, 6)] H3 [0, 1, 2] mixed (by decide) (by kernel_rfl) ?_
 rintro w4 hw4
 have H4 := Hp.drew H3; rw [← hw4] at H4
 refine Zf rfl fl45_4 rfl<|Zf rfl fl41_0 rfl<|MP rfl<|MV (fun wz hz => EL ty3 rfl (hz.cell (i := 1) rfl rfl))<|MP rfl<|MV (fun wz hz => EN ty57 rfl (vs := [.int .i64 s.p.r, .int .i64 s.p.n, .slice A1 s.votes.length k1, .int .i64 s.index, .slice A2 s.image.length k2, .slice A3 s.entries.length k3]) rfl (hz.cellsR (i := 0) rfl rfl))<|cZ e122<|MO rfl<|OC (EC gf43 rfl) (last_r s A1 k1 A2 k2 A3 k3 _ ⟨by omega, by omega⟩ (by omega))<|fun w5 Hd=>have H5:=H4.callN Hd;OE<|⟨fun hne => H5.pick [0, 1, 2] (by decide), ?_⟩
 refine cZ e122<|MP rfl<|MV (fun wz hz => ex_add rfl rfl (IntWalk.i64_in _ (by omega)))<|MO rfl<|OT (ex_eql rfl rfl) (fun hp40 => ?_) (fun hp40 => ?_)
 refine OE ?_
 refine ⟨fun hne => absurd rfl hne, ?_⟩
 refine ME<|cR e122<|J3 rfl<|J1<|run_mixT 8 (.p 0 (.p 1 (.p 3 (.p 4 (.two 2 (.o 5 (.o 6 (.p 7 (.o 8 .nil)))) 5 (.o 2 (.o 6 (.p 7 (.o 8 .nil))))))))) H5 [0, 1, 2] mixed (by decide) (by kernel_rfl) ?_
 rintro w6 hw6
 have H6 := Hp.drew H5; rw [← hw6] at H6
 refine Tf rfl fl57_4 rfl<|TP rfl<|MV (fun wz hz => EL ty55 rfl (hz.cell (i := 0) rfl rfl))<|Tf rfl fl45_4 rfl<|TP rfl<|MV (fun wz hz => EN ty41 rfl (vs := [.int .i64 n.entry.slot, .slice B2 n.entry.val.length j2]) rfl (hz.cellsR (i := 1) rfl rfl))<|cT e122<|mixt_two ?_ ?_
 refine TQ rfl<|ops_grow Tryz.underlying55 ty41 (by decide) (H6.nil 41) 3 (Gw.nil 2) rfl rfl (rs := pe)  (m := s.entries.length) hel rfl (hre.to0 H6) hpe hone (by rw [List.length_nil]; omega) (by rw [List.length_nil]; omega) (by decide)<|fun w7 g2 cap2 sp2 H7 hG2=>OE<|⟨fun hne => H7.pick [0, 1, 2] (by decide), ?_⟩
 refine cT e122<|TQ rfl<|ops_buildSlice Tryz.underlying55 ty41 H7 (cs := [.int .i64 n.entry.slot, .slice B2 n.entry.val.length j2]) rfl (by decide) rfl<|fun w8 gk H8 _=>OE<|⟨fun hne => H8.pick [0, 1, 2] (by decide), ?_⟩
 refine cT e122<|TQ rfl<|ops_grow Tryz.underlying55 ty41 (by decide) H8 3 (show Gw 2 g2 cap2 pe sp2 from hG2) rfl rfl (rs := [[.int .i64 n.entry.slot, .slice B2 n.entry.val.length j2]]) (m := 1) rfl rfl (H8.rd (i := 4) (o := some _) (xs := [.int .i64 n.entry.slot, .slice B2 n.entry.val.length j2]) (sp := []) rfl rfl (by decide)) (Pl.one rfl) (fun p hp => by rw [List.mem_singleton.1 hp]; rfl) (by omega) (by omega) (by decide)<|fun w9 g4 cap4 sp4 H9 hG4=>?_
 have hEL : (pe ++ ([[.int .i64 n.entry.slot, .slice B2 n.entry.val.length j2]] : List (List Value))).length = (s.entries ++ [n.entry]).length := by rw [List.length_append, List.length_append, hel]; rfl
 rw [hEL]
 refine OE ?_
 refine ⟨fun hne => H9.pick [0, 1, 2] (by decide), ?_⟩
 refine cT e122<|Tf rfl fl57_4 rfl<|TQ rfl<|OW ty55 H9 0 rfl rfl rfl rfl (by first | decide | (simp; done) | simp [putAt]) rfl<|fun w10 H10=>OE<|⟨fun hne => absurd rfl hne, ?_⟩
 refine cT e122<|mixt_nil<|cR e122<|J2<|Xf fl57_1 rfl<|OV (EL ty54 rfl (H10.cell (i := 0) rfl rfl))<|Xf fl45_4 rfl<|Xf fl41_0 rfl<|cOp e122<|OV (EL ty3 rfl (H10.cell (i := 1) rfl rfl))<|OQ (EC gf45 rfl) (behind_r A1 k1 pv s.votes n.entry.slot ok _ hpv (hrv.to0 H10) (hav2.imp fun p x h => h.to H10 k0) (by omega)) ?_
 rintro _ w11 ⟨g3, cap3, sp3, rfl, hG3, Hc⟩
 have H11 := H10.call0 Hc
 have hBL : (pv.filter fun p => !vtLe n.entry.slot p).length = (behind s.votes n.entry.slot).length := (behind_rows hav2).len
 rw [hBL]
 refine Xf fl57_1 rfl<|OW ty54 H11 0 rfl rfl rfl rfl (by first | (simp; done) | simp [putAt]) rfl<|fun w12 H12=>Xr e122<|run_nil (blk_normal ?_)
 refine Rq<|OV (EN ty57 rfl (vs := [.int .i64 s.p.r, .int .i64 s.p.n, .slice (hd g3) (behind s.votes n.entry.slot).length cap3, .int .i64 s.index, .slice A2 s.image.length k2, .slice (hd g4) (s.entries ++ [n.entry]).length cap4]) rfl (H12.cellsR (i := 0) rfl rfl))<|OS ty57 H12 2 rfl rfl rfl rfl rfl (by first | decide | (simp; done) | simp [putAt]) rfl<|fun w13 H13=>Xr e122<|J5<|fin_cell rfl ty57 (cs := [.int .i64 s.p.r, .int .i64 s.p.n, .slice (hd g3) (behind s.votes n.entry.slot).length cap3, .int .i64 s.index, .slice A2 s.image.length k2, .slice (hd g4) (s.entries ++ [n.entry]).length cap4]) rfl rfl (H13.cellsR (i := 2) rfl rfl)<|⟨_, rfl, ?_, H13.noRows⟩
 rw [goes3 hp33, if_pos (by unfold Sv.last; omega)]
 exact ⟨hd g3, cap3, A2, k2, hd g4, cap4, rfl, Sl.row H13 (i := 5) rfl hG3.2.2.2 (by decide) (behind_rows (hav2.imp fun p x h => h.to H13 up_k0)) (row_new H13 (i := 5) rfl (fun _ h => by cases h)), hv2.to H13 up_k0, Sl.row H13 (i := 3) rfl hG4.2.2.2 (by decide) ((he2.imp fun p x h => h.to H13 up_k0).app (All2.one ⟨B2, j2, rfl, hbe.to H13 up_k0⟩)) (row_new H13 (i := 3) rfl (fun _ h => by cases h))⟩
 refine TQ rfl<|ops_buildSlice Tryz.underlying55 ty41 H6 (cs := [.int .i64 n.entry.slot, .slice B2 n.entry.val.length j2]) rfl (by decide) rfl<|fun w7 gk H7 _=>OE<|⟨fun hne => H7.pick [0, 1, 2] (by decide), ?_⟩
 refine cT e122<|TQ rfl<|ops_grow Tryz.underlying55 ty41 (by decide) (H7.nil 41) 4 (Gw.nil 2) rfl rfl (rs := pe)  (m := s.entries.length) hel rfl (hre.to0 H7) hpe hone (by rw [List.length_nil]; omega) (by rw [List.length_nil]; omega) (by decide)<|fun w8 g2 cap2 sp2 H8 hG2=>?_
 replace H8 := H8.pick [0, 1, 2, 4, 3] (by decide)
 refine OE ?_
 refine ⟨fun hne => H8.pick [0, 1, 2] (by decide), ?_⟩
 refine cT e122<|TQ rfl<|ops_grow Tryz.underlying55 ty41 (by decide) H8 3 (show Gw 2 g2 cap2 pe sp2 from hG2) rfl rfl (rs := [[.int .i64 n.entry.slot, .slice B2 n.entry.val.length j2]]) (m := 1) rfl rfl (H8.rd (i := 4) (o := some _) (xs := [.int .i64 n.entry.slot, .slice B2 n.entry.val.length j2]) (sp := []) rfl rfl (by decide)) (Pl.one rfl) (fun p hp => by rw [List.mem_singleton.1 hp]; rfl) (by omega) (by omega) (by decide)<|fun w9 g4 cap4 sp4 H9 hG4=>?_
 have hEL : (pe ++ ([[.int .i64 n.entry.slot, .slice B2 n.entry.val.length j2]] : List (List Value))).length = (s.entries ++ [n.entry]).length := by rw [List.length_append, List.length_append, hel]; rfl
 rw [hEL]
 refine OE ?_
 refine ⟨fun hne => H9.pick [0, 1, 2] (by decide), ?_⟩
 refine cT e122<|Tf rfl fl57_4 rfl<|TQ rfl<|OW ty55 H9 0 rfl rfl rfl rfl (by first | decide | (simp; done) | simp [putAt]) rfl<|fun w10 H10=>OE<|⟨fun hne => absurd rfl hne, ?_⟩
 refine cT e122<|mixt_nil<|cR e122<|J2<|Xf fl57_1 rfl<|OV (EL ty54 rfl (H10.cell (i := 0) rfl rfl))<|Xf fl45_4 rfl<|Xf fl41_0 rfl<|cOp e122<|OV (EL ty3 rfl (H10.cell (i := 1) rfl rfl))<|OQ (EC gf45 rfl) (behind_r A1 k1 pv s.votes n.entry.slot ok _ hpv (hrv.to0 H10) (hav2.imp fun p x h => h.to H10 k0) (by omega)) ?_
 rintro _ w11 ⟨g3, cap3, sp3, rfl, hG3, Hc⟩
 have H11 := H10.call0 Hc
 have hBL : (pv.filter fun p => !vtLe n.entry.slot p).length = (behind s.votes n.entry.slot).length := (behind_rows hav2).len
 rw [hBL]
 refine Xf fl57_1 rfl<|OW ty54 H11 0 rfl rfl rfl rfl (by first | (simp; done) | simp [putAt]) rfl<|fun w12 H12=>Xr e122<|run_nil (blk_normal ?_)
 refine Rq<|OV (EN ty57 rfl (vs := [.int .i64 s.p.r, .int .i64 s.p.n, .slice (hd g3) (behind s.votes n.entry.slot).length cap3, .int .i64 s.index, .slice A2 s.image.length k2, .slice (hd g4) (s.entries ++ [n.entry]).length cap4]) rfl (H12.cellsR (i := 0) rfl rfl))<|OS ty57 H12 2 rfl rfl rfl rfl rfl (by first | decide | (simp; done) | simp [putAt]) rfl<|fun w13 H13=>Xr e122<|J5<|fin_cell rfl ty57 (cs := [.int .i64 s.p.r, .int .i64 s.p.n, .slice (hd g3) (behind s.votes n.entry.slot).length cap3, .int .i64 s.index, .slice A2 s.image.length k2, .slice (hd g4) (s.entries ++ [n.entry]).length cap4]) rfl rfl (H13.cellsR (i := 2) rfl rfl)<|⟨_, rfl, ?_, H13.noRows⟩
 rw [goes3 hp33, if_pos (by unfold Sv.last; omega)]
 exact ⟨hd g3, cap3, A2, k2, hd g4, cap4, rfl, Sl.row H13 (i := 5) rfl hG3.2.2.2 (by decide) (behind_rows (hav2.imp fun p x h => h.to H13 up_k0)) (row_new H13 (i := 5) rfl (fun _ h => by cases h)), hv2.to H13 up_k0, Sl.row H13 (i := 3) rfl hG4.2.2.2 (by decide) ((he2.imp fun p x h => h.to H13 up_k0).app (All2.one ⟨B2, j2, rfl, hbe.to H13 up_k0⟩)) (row_new H13 (i := 3) rfl (fun _ h => by cases h))⟩
 refine OE ?_
 refine ⟨fun hne => absurd rfl hne, ?_⟩
 refine ME<|cR e122<|J4 rfl<|J6<|run_nil (blk_normal ?_)
 refine Rq<|OV (EN ty57 rfl (vs := [.int .i64 s.p.r, .int .i64 s.p.n, .slice A1 s.votes.length k1, .int .i64 s.index, .slice A2 s.image.length k2, .slice A3 s.entries.length k3]) rfl (H5.cellsR (i := 0) rfl rfl))<|OS ty57 H5 2 rfl rfl rfl rfl rfl (by first | decide | (simp; done) | simp [putAt]) rfl<|fun w6 H6=>Xr e122<|J5<|fin_cell rfl ty57 (cs := [.int .i64 s.p.r, .int .i64 s.p.n, .slice A1 s.votes.length k1, .int .i64 s.index, .slice A2 s.image.length k2, .slice A3 s.entries.length k3]) rfl rfl (H6.cellsR (i := 2) rfl rfl)<|⟨_, rfl, ?_, H6.noRows⟩
 rw [goes3 hp33, if_neg (by unfold Sv.last; omega)]
 exact ⟨A1, k1, A2, k2, A3, k3, rfl, hv1.toV H6 up_k0, hv2.to H6 up_k0, hv3.toE H6 up_k0⟩
 refine Xa rfl<|Xr e122<|J4 rfl<|Rq<|OT1 (ex_eql rfl rfl) (by omega)<|Xa rfl<|Xr e122<|J3 rfl<|J1<|Rq<|Xf fl45_4 rfl<|Xf fl41_0 rfl<|OV (EL ty3 rfl (H3.cell (i := 1) rfl rfl))<|Xf fl57_2 rfl<|cOp e122<|OV (EL ty3 rfl (H3.cell (i := 0) rfl rfl))<|OT (ex_leq rfl rfl) (fun hp63 => ?_) (fun hp63 => ?_)
 refine Xr e122<|J3 rfl<|Rq<|OV (EN ty57 rfl (vs := [.int .i64 s.p.r, .int .i64 s.p.n, .slice A1 s.votes.length k1, .int .i64 s.index, .slice A2 s.image.length k2, .slice A3 s.entries.length k3]) rfl (H3.cellsR (i := 0) rfl rfl))<|OS ty57 H3 2 rfl rfl rfl rfl rfl (by first | decide | (simp; done) | simp [putAt]) rfl<|fun w4 H4=>Xr e122<|J5<|BR<|fin_cell rfl ty57 (cs := [.int .i64 s.p.r, .int .i64 s.p.n, .slice A1 s.votes.length k1, .int .i64 s.index, .slice A2 s.image.length k2, .slice A3 s.entries.length k3]) rfl rfl (H4.cellsR (i := 2) rfl rfl)<|⟨_, rfl, ?_, H4.noRows⟩
 rw [goes4 (by omega), if_pos (by omega)]
 exact ⟨A1, k1, A2, k2, A3, k3, rfl, hv1.toV H4 up_k0, hv2.to H4 up_k0, hv3.toE H4 up_k0⟩
 refine Xr e122<|J4 rfl<|J6<|Rq<|Xa rfl<|Xr e122<|J1<|Rq<|Xa rfl<|Xr e122<|J7<|run_loop (fun nQ lQ w => ∃ (i : Nat) (y : Int) (g : Option Nat) (cap : Nat) (qs : List (List Value)) (sp : List Value), s.entries.length - i = nQ ∧ Fits [none, none, some (.pointer (some ⟨gs, 0, none⟩)), some (.pointer (some ⟨gn, 0, none⟩)), some (.pointer (some ⟨gr, 0, none⟩)), some (.slice (hd g) qs.length cap), some (.int .i64 y), none, none, none, none, none, none, none, none, none, none, none, none, none, none, none, none, none, none, none, none, none, none, none, none, none, none, none, none, none, none, none, none, none, none, none, none, none, none, none, none, none, none, none, none, none, none, none, none, none, none, none, none, none, none, none, none, none, none, none, none, none, none, none, none, none, none, none, none, none, none, none, none, none, none, none, none, none, none, none, none, none, none, none, none, none, none, none, none, none, none, none, none, none, none, none, none, none, none, none, none, none, none, none, none, none, none, none, none, none, none, none, none, none, none, none] lQ ∧ y = (i : Int) ∧ i ≤ s.entries.length ∧ qs = (pe.take i).filter (fun p => !vtLe n.entry.slot p) ∧ Gw 2 g cap qs sp ∧ Hp w0 w [] [((some gs, 57, [.int .i64 s.p.r, .int .i64 s.p.n, .slice A1 s.votes.length k1, .int .i64 s.index, .slice A2 s.image.length k2, .slice A3 s.entries.length k3]) : Ent), ((some gn, 45, [.int .i64 n.kind, .int .i64 n.group, .int .i64 n.b.r, .int .i64 n.b.n, .int .i64 n.vote.slot, .int .i64 n.vote.b.r, .int .i64 n.vote.b.n, .slice B1 n.vote.val.length j1, .int .i64 n.entry.slot, .slice B2 n.entry.val.length j2, .int .i64 n.right.g, strV n.right.key, .int .i64 n.right.lease, .int .i64 n.right.net, .int .i64 n.client, .int .i64 n.seq]) : Ent), ((some gr, 57, [.int .i64 0, .int .i64 0, .slice none 0 0, .int .i64 0, .slice none 0 0, .slice none 0 0]) : Ent), ((g, 41, qs.flatten ++ sp) : Ent)]) (s.entries.length) ?_ ?_
 exact ⟨0, _, none, 0, [], [], rfl, (fn (fn (fs (fs (fs (fs (fs (fn (fn (fn (fn (fn (fn (fn (fn (fn (fn (fn (fn (fn (fn (fn (fn (fn (fn (fn (fn (fn (fn (fn (fn (fn (fn (fn (fn (fn (fn (fn (fn (fn (fn (fn (fn (fn (fn (fn (fn (fn (fn (fn (fn (fn (fn (fn (fn (fn (fn (fn (fn (fn (fn (fn (fn (fn (fn (fn (fn (fn (fn (fn (fn (fn (fn (fn (fn (fn (fn (fn (fn (fn (fn (fn (fn (fn (fn (fn (fn (fn (fn (fn (fn (fn (fn (fn (fn (fn (fn (fn (fn (fn (fn (fn (fn (fn (fn (fn (fn (fn (fn (fn (fn (fn (fn (fn (fn (fn (fn (fn (fn (fn (fn (fn f0)))))))))))))))))))))))))))))))))))))))))))))))))))))))))))))))))))))))))))))))))))))))))))))))))))))))))))))))))))))))))), rfl, Nat.zero_le _, rfl, Gw.nil 2, H3.nil 41⟩
 rintro nQ lQ w4 ⟨i, y, g, cap, qs, sp, rfl, hfit, rfl, hi, hqs, hG, H4⟩
 obtain ⟨j, rfl⟩ := hfit.open
 refine cR e122 ?_
 clear hfit
 refine J1<|Rq<|Xm rfl<|Xf fl57_4 rfl<|OV (EL ty55 rfl (H4.cell (i := 0) rfl rfl))<|OV (ES Tryz.underlying55 rfl)<|cOp e122<|OT (ex_lss rfl rfl) (fun hp69 => ?_) (fun hp69 => ?_)
 have hil : i < s.entries.length := by omega
 obtain ⟨x, hx⟩ := get_of hil
 obtain ⟨p1, hp1, hR⟩ := he2.get hx
 obtain ⟨Ax, kx, rfl, hbx⟩ := hR
 obtain ⟨a1, ha1⟩ := hre.some_ (by omega)
 subst ha1
 have hql : qs.length ≤ i := by rw [hqs]; exact tf_len
 refine Xr e122<|J3 rfl<|J6<|J1<|J7<|J1<|run_still mixed (by kernel_rfl) ?_
 rintro w5 hw5
 have H5 := Hp.drew H4; rw [← hw5] at H5
 refine SV (EF fl57_4 rfl)<|SV (EL ty55 rfl (H5.cell (i := 0) rfl rfl))<|SV (ex_move rfl)<|SV (EI Tryz.underlying55 ty41 rfl rfl rfl hil rfl)<|cStl e122<|SV (ex_fieldAddrA fl41_0 rfl)<|SV (EL ty3 rfl (((hre.to0 H5).elem hpe hp1) 0 _ rfl))<|SV (EF fl45_4 rfl)<|SV (EF fl41_0 rfl)<|cStl e122<|SV (EL ty3 rfl (H5.cell (i := 1) rfl rfl))<|still_test (ex_gtr rfl rfl) (fun hp81 => ?_) (fun hp81 => ?_)
 have hf1 : (!vtLe n.entry.slot [.int .i64 x.slot, .slice Ax x.val.length kx]) = true := by show (!decide (x.slot ≤ n.entry.slot)) = true; rw [decide_eq_false (by omega)]; rfl
 refine still_nil<|cR e122<|J3 rfl<|J2<|Xm rfl<|Xf fl57_4 rfl<|OV (EL ty55 rfl (H5.cell (i := 0) rfl rfl))<|Xm rfl<|cOp e122<|OV (EI Tryz.underlying55 ty41 rfl rfl rfl hil rfl)<|OV (EN ty41 rfl (vs := [.int .i64 x.slot, .slice Ax x.val.length kx]) rfl ((hre.to0 H5).elem hpe hp1))<|ops_buildSlice Tryz.underlying55 ty41 H5 (cs := [.int .i64 x.slot, .slice Ax x.val.length kx]) rfl (by decide) rfl<|fun w6 gk H6 _=>ops_grow Tryz.underlying55 ty41 (by decide) H6 3 hG rfl rfl (rs := [[.int .i64 x.slot, .slice Ax x.val.length kx]]) (m := 1) rfl rfl (H6.rd (i := 4) (o := some _) (xs := [.int .i64 x.slot, .slice Ax x.val.length kx]) (sp := []) rfl rfl (by decide)) (Pl.one rfl) (fun p hp => by rw [List.mem_singleton.1 hp]; rfl) (by omega) (by omega) (by decide)<|fun w7 g2 cap2 sp2 H7 hG2=>cOp e122<|Xa rfl<|Xr e122<|run_nil (blk_normal ?_)
 refine J2<|Xm rfl<|OV (ex_add rfl rfl (IntWalk.i64_in _ (by omega)))<|Xa rfl<|Xr e122<|run_nil (rnd_normal ?_)
 exact ⟨s.entries.length - (i + 1), by omega, i + 1, _, g2, cap2, _, sp2, rfl, (fn (fn (fs (fs (fs (fs (fs (fn (fn (fn (fn (fn (fn (fn (fn (fn (fn (fn (fn (fn (fn (fn (fn (fn (fn (fn (fn (fn (fn (fn (fn (fn (fn (fn (fn (fn (fn (fn (fn (fn (fn (fn (fn (fn (fn (fn (fn (fn (fn (fn (fn (fn (fn (fn (fn (fn (fn (fn (fn (fn (fn (fn (fn (fn (fn (fn (fn (fn (fn (fn (fn (fn (fn (fn (fn (fn (fn (fn (fn (fn (fn (fn (fn (fn (fn (fn (fn (fn (fn (fn (fn (fn (fn (fn (fn (fn (fn (fn (fn (fn (fn (fn (fn (fn (fn (fn (fn (fn (fn (fn (fn (fn (fn (fn (fn (fn (fn (fn (fn (fn (fn (fn f0)))))))))))))))))))))))))))))))))))))))))))))))))))))))))))))))))))))))))))))))))))))))))))))))))))))))))))))))))))))))))), by omega, by omega, by rw [hqs, tf_t hp1 hf1], hG2, H7.pick [0, 1, 2, 3] (by decide)⟩
 have hf1 : (!vtLe n.entry.slot [.int .i64 x.slot, .slice Ax x.val.length kx]) = false := by show (!decide (x.slot ≤ n.entry.slot)) = false; rw [decide_eq_true (by omega)]; rfl
 refine still_nil<|cR e122<|J4 rfl<|J6<|run_nil (blk_normal ?_)
 refine J2<|Xm rfl<|OV (ex_add rfl rfl (IntWalk.i64_in _ (by omega)))<|Xa rfl<|Xr e122<|run_nil (rnd_normal ?_)
 exact ⟨s.entries.length - (i + 1), by omega, i + 1, _, g, cap, qs, sp, rfl, (fn (fn (fs (fs (fs (fs (fs (fn (fn (fn (fn (fn (fn (fn (fn (fn (fn (fn (fn (fn (fn (fn (fn (fn (fn (fn (fn (fn (fn (fn (fn (fn (fn (fn (fn (fn (fn (fn (fn (fn (fn (fn (fn (fn (fn (fn (fn (fn (fn (fn (fn (fn (fn (fn (fn (fn (fn (fn (fn (fn (fn (fn (fn (fn (fn (fn (fn (fn (fn (fn (fn (fn (fn (fn (fn (fn (fn (fn (fn (fn (fn (fn (fn (fn (fn (fn (fn (fn (fn (fn (fn (fn (fn (fn (fn (fn (fn (fn (fn (fn (fn (fn (fn (fn (fn (fn (fn (fn (fn (fn (fn (fn (fn (fn (fn (fn (fn (fn (fn (fn (fn (fn f0)))))))))))))))))))))))))))))))))))))))))))))))))))))))))))))))))))))))))))))))))))))))))))))))))))))))))))))))))))))))))), by omega, by omega, by rw [hqs, tf_f hp1 hf1], hG, H5.pick [0, 1, 2, 3] (by decide)⟩
 obtain rfl : i = s.entries.length := by omega
 rw [← hel, List.take_length] at hqs
 have hef := ents_rows (n := n.entry.slot) he2
 rw [← hqs] at hef
 have hefl := hef.len
 have HI := H4
 rw [hefl]
 refine Xr e122<|J4 rfl<|J8<|rnd_exit<|blk_exit<|J1<|J1<|run_still mixed (by kernel_rfl) ?_
 rintro w5 hw5
 have H5 := Hp.drew H4; rw [← hw5] at H5
 refine SV (ex_move rfl)<|SV (ES Tryz.underlying55 rfl)<|still_test (ex_gtr rfl rfl) (fun hp92 => ?_) (fun hp92 => ?_)
 obtain ⟨p0, hp0⟩ := get_of (l := qs) (j := 0) (by omega)
 obtain ⟨e0, he0, hR0⟩ := hef.getL hp0
 have hmem0 := (List.mem_filter.1 (List.mem_of_getElem? he0))
 have hsl0 := hes e0 hmem0.1
 have hgt0 : n.entry.slot < e0.slot := by simpa using hmem0.2
 obtain ⟨Aq, kq, hpq, _⟩ := hR0
 subst hpq
 have hc0 : (qs.flatten ++ sp)[0 + 0 * 2 + 0]? = some (.int .i64 e0.slot) := by
   have h1 := hG.2.2.2.get hp0 (j := 0) (u := .int .i64 e0.slot) rfl
   rw [List.getElem?_append_left (lt_of_get h1)]; exact h1
 obtain ⟨gx, rfl⟩ := own_some HI (i := 3) rfl (lt_of_get hc0)
 refine SV (ex_move rfl)<|cStl e122<|still_yes rfl<|SV (ex_move rfl)<|still_yes rfl<|SV (ex_idxN Tryz.underlying55 ty41 rfl rfl (i := 0) rfl (by omega))<|cStl e122<|still_yes rfl<|SV (EF fl41_0 rfl)<|still_yes rfl<|SV (EL ty3 rfl (H5.cell (i := 3) rfl hc0))<|cStl e122<|still_yes rfl<|SV (EF fl45_4 rfl)<|still_yes rfl<|SV (EF fl41_0 rfl)<|cStl e122<|still_yes rfl<|SV (EL ty3 rfl (H5.cell (i := 1) rfl rfl))<|still_yes rfl<|SV (ex_add rfl rfl (IntWalk.i64_in _ (by omega)))<|cStl e122<|still_yes rfl<|still_test (ex_neq rfl rfl) (fun hp102 => ?_) (fun hp102 => ?_)
 refine SV (ex_pick_t rfl rfl)<|still_nil<|cR e122<|J3 rfl<|J2<|Xa rfl<|Xr e122<|J1<|run_mixZ 12 [(true, 0), (true, 1), (true, 2), (true, 3), (true, 4), (true, 5), (true, 6), (true, 7), (false, 8), (true, 9), (false, 10), (true, 11), (false, 12)] H5 [1] mixed (by decide) (by kernel_rfl) ?_
 rintro w6 hw6
 have H6 := Hp.drew H5; rw [← hw6] at H6
 refine Zf rfl fl45_4 rfl<|Zf rfl fl41_0 rfl<|MP rfl<|MV (fun wz hz => EL ty3 rfl (hz.cell (i := 0) rfl rfl))<|Zf rfl fl45_4 rfl<|cZ e122<|Zf rfl fl41_1 rfl<|MP rfl<|MV (fun wz hz => EL ty37 rfl (hz.cell (i := 0) rfl rfl))<|Zm rfl rfl<|Zf rfl fl57_2 rfl<|cZ e122<|MO rfl<|OW ty3 H6 0 rfl rfl rfl rfl (by first | (simp; done) | simp [putAt]) rfl<|fun w7 H7=>OE<|⟨fun hne => H7.pick [1] (by decide), ?_⟩
 refine cZ e122<|Zf rfl fl57_3 rfl<|MO rfl<|OW ty37 H7 0 rfl rfl rfl rfl (by first | (simp; done) | simp [putAt]) rfl<|fun w8 H8=>OE<|⟨fun hne => H8.pick [1] (by decide), ?_⟩
 refine cZ e122<|Zf rfl fl57_4 rfl<|MO rfl<|OW ty55 H8 0 rfl rfl rfl rfl (by first | (simp; done) | simp [putAt]) rfl<|fun w9 H9=>OE<|⟨fun hne => absurd rfl hne, ?_⟩
 refine cZ e122<|ME<|cR e122<|J2<|Xf fl57_1 rfl<|OV (EL ty54 rfl (H9.cell (i := 0) rfl rfl))<|Xf fl45_4 rfl<|Xf fl41_0 rfl<|cOp e122<|OV (EL ty3 rfl (H9.cell (i := 1) rfl rfl))<|OQ (EC gf45 rfl) (behind_r A1 k1 pv s.votes n.entry.slot ok _ hpv (hrv.to0 H9) (hav2.imp fun p x h => h.to H9 k0) (by omega)) ?_
 rintro _ w10 ⟨g3, cap3, sp3, rfl, hG3, Hc⟩
 have H10 := H9.call0 Hc
 have hBL : (pv.filter fun p => !vtLe n.entry.slot p).length = (behind s.votes n.entry.slot).length := (behind_rows hav2).len
 rw [hBL]
 refine Xf fl57_1 rfl<|OW ty54 H10 0 rfl rfl rfl rfl (by first | (simp; done) | simp [putAt]) rfl<|fun w11 H11=>Xr e122<|run_nil (blk_normal ?_)
 refine Rq<|OV (EN ty57 rfl (vs := [.int .i64 s.p.r, .int .i64 s.p.n, .slice (hd g3) (behind s.votes n.entry.slot).length cap3, .int .i64 n.entry.slot, .slice B2 n.entry.val.length j2, .slice none 0 0]) rfl (H11.cellsR (i := 0) rfl rfl))<|OS ty57 H11 2 rfl rfl rfl rfl rfl (by first | decide | (simp; done) | simp [putAt]) rfl<|fun w12 H12=>Xr e122<|J5<|fin_cell rfl ty57 (cs := [.int .i64 s.p.r, .int .i64 s.p.n, .slice (hd g3) (behind s.votes n.entry.slot).length cap3, .int .i64 n.entry.slot, .slice B2 n.entry.val.length j2, .slice none 0 0]) rfl rfl (H12.cellsR (i := 2) rfl rfl) ?_
 have h0 : imgEn s.entries n.entry.slot = [] := by
   unfold imgEn
   cases hq : (s.entries.filter fun x => decide (n.entry.slot < x.slot)) with
   | nil => rfl
   | cons a r =>
     rw [hq] at he0
     cases he0
     exact if_neg hp102
 refine ⟨_, rfl, ?_, H12.noRows⟩
 rw [goes4 (by omega), if_neg (by omega), h0]
 exact ⟨hd g3, cap3, B2, j2, none, 0, rfl, Sl.row H12 (i := 4) rfl hG3.2.2.2 (by decide) (behind_rows (hav2.imp fun p x h => h.to H12 up_k0)) (row_new H12 (i := 4) rfl (fun _ h => by cases h)), hbe.to H12 up_k0, Sl.none _ _ _ _⟩
 refine SV (ex_pick_t rfl rfl)<|still_nil<|cR e122<|J4 rfl<|J6<|J1<|run_mixZ 12 [(true, 0), (true, 1), (true, 2), (true, 3), (true, 4), (true, 5), (true, 6), (true, 7), (false, 8), (true, 9), (false, 10), (true, 11), (false, 12)] H5 [1] mixed (by decide) (by kernel_rfl) ?_
 rintro w6 hw6
 have H6 := Hp.drew H5; rw [← hw6] at H6
 refine Zf rfl fl45_4 rfl<|Zf rfl fl41_0 rfl<|MP rfl<|MV (fun wz hz => EL ty3 rfl (hz.cell (i := 0) rfl rfl))<|Zf rfl fl45_4 rfl<|cZ e122<|Zf rfl fl41_1 rfl<|MP rfl<|MV (fun wz hz => EL ty37 rfl (hz.cell (i := 0) rfl rfl))<|Zm rfl rfl<|Zf rfl fl57_2 rfl<|cZ e122<|MO rfl<|OW ty3 H6 0 rfl rfl rfl rfl (by first | (simp; done) | simp [putAt]) rfl<|fun w7 H7=>OE<|⟨fun hne => H7.pick [1] (by decide), ?_⟩
 refine cZ e122<|Zf rfl fl57_3 rfl<|MO rfl<|OW ty37 H7 0 rfl rfl rfl rfl (by first | (simp; done) | simp [putAt]) rfl<|fun w8 H8=>OE<|⟨fun hne => H8.pick [1] (by decide), ?_⟩
 refine cZ e122<|Zf rfl fl57_4 rfl<|MO rfl<|OW ty55 H8 0 rfl rfl rfl rfl (by first | (simp; done) | simp [putAt]) rfl<|fun w9 H9=>OE<|⟨fun hne => absurd rfl hne, ?_⟩
 refine cZ e122<|ME<|cR e122<|J2<|Xf fl57_1 rfl<|OV (EL ty54 rfl (H9.cell (i := 0) rfl rfl))<|Xf fl45_4 rfl<|Xf fl41_0 rfl<|cOp e122<|OV (EL ty3 rfl (H9.cell (i := 1) rfl rfl))<|OQ (EC gf45 rfl) (behind_r A1 k1 pv s.votes n.entry.slot ok _ hpv (hrv.to0 H9) (hav2.imp fun p x h => h.to H9 k0) (by omega)) ?_
 rintro _ w10 ⟨g3, cap3, sp3, rfl, hG3, Hc⟩
 have H10 := H9.call0 Hc
 have hBL : (pv.filter fun p => !vtLe n.entry.slot p).length = (behind s.votes n.entry.slot).length := (behind_rows hav2).len
 rw [hBL]
 refine Xf fl57_1 rfl<|OW ty54 H10 0 rfl rfl rfl rfl (by first | (simp; done) | simp [putAt]) rfl<|fun w11 H11=>Xr e122<|run_nil (blk_normal ?_)
 refine Rq<|OV (EN ty57 rfl (vs := [.int .i64 s.p.r, .int .i64 s.p.n, .slice (hd g3) (behind s.votes n.entry.slot).length cap3, .int .i64 n.entry.slot, .slice B2 n.entry.val.length j2, .slice (hd (some gx)) (s.entries.filter fun x => decide (n.entry.slot < x.slot)).length cap]) rfl (H11.cellsR (i := 0) rfl rfl))<|OS ty57 H11 2 rfl rfl rfl rfl rfl (by first | decide | (simp; done) | simp [putAt]) rfl<|fun w12 H12=>Xr e122<|J5<|fin_cell rfl ty57 (cs := [.int .i64 s.p.r, .int .i64 s.p.n, .slice (hd g3) (behind s.votes n.entry.slot).length cap3, .int .i64 n.entry.slot, .slice B2 n.entry.val.length j2, .slice (hd (some gx)) (s.entries.filter fun x => decide (n.entry.slot < x.slot)).length cap]) rfl rfl (H12.cellsR (i := 2) rfl rfl) ?_
 have h0 : imgEn s.entries n.entry.slot = (s.entries.filter fun x => decide (n.entry.slot < x.slot)) := by
   unfold imgEn
   cases hq : (s.entries.filter fun x => decide (n.entry.slot < x.slot)) with
   | nil => simp [hq] at he0
   | cons a r =>
     rw [hq] at he0
     cases he0
     exact if_pos (by omega)
 refine ⟨_, rfl, ?_, H12.noRows⟩
 rw [goes4 (by omega), if_neg (by omega), h0]
 exact ⟨hd g3, cap3, B2, j2, hd (some gx), cap, rfl, Sl.row H12 (i := 4) rfl hG3.2.2.2 (by decide) (behind_rows (hav2.imp fun p x h => h.to H12 up_k0)) (row_new H12 (i := 4) rfl (fun _ h => by cases h)), hbe.to H12 up_k0, Sl.row H12 (i := 3) rfl hG.2.2.2 (by decide) (hef.imp fun p x h => h.to H12 up_k0) (row_new H12 (i := 3) rfl (fun _ h => by cases h))⟩
 refine SV (ex_move rfl)<|cStl e122<|still_no rfl<|still_no rfl<|cStl e122<|still_no rfl<|still_no rfl<|cStl e122<|still_no rfl<|still_no rfl<|cStl e122<|still_no rfl<|still_no rfl<|cStl e122<|still_no rfl<|SV (ex_pick_f rfl rfl)<|still_nil<|cR e122<|J4 rfl<|J6<|J1<|run_mixZ 12 [(true, 0), (true, 1), (true, 2), (true, 3), (true, 4), (true, 5), (true, 6), (true, 7), (false, 8), (true, 9), (false, 10), (true, 11), (false, 12)] H5 [1] mixed (by decide) (by kernel_rfl) ?_
 rintro w6 hw6
 have H6 := Hp.drew H5; rw [← hw6] at H6
 refine Zf rfl fl45_4 rfl<|Zf rfl fl41_0 rfl<|MP rfl<|MV (fun wz hz => EL ty3 rfl (hz.cell (i := 0) rfl rfl))<|Zf rfl fl45_4 rfl<|cZ e122<|Zf rfl fl41_1 rfl<|MP rfl<|MV (fun wz hz => EL ty37 rfl (hz.cell (i := 0) rfl rfl))<|Zm rfl rfl<|Zf rfl fl57_2 rfl<|cZ e122<|MO rfl<|OW ty3 H6 0 rfl rfl rfl rfl (by first | (simp; done) | simp [putAt]) rfl<|fun w7 H7=>OE<|⟨fun hne => H7.pick [1] (by decide), ?_⟩
 refine cZ e122<|Zf rfl fl57_3 rfl<|MO rfl<|OW ty37 H7 0 rfl rfl rfl rfl (by first | (simp; done) | simp [putAt]) rfl<|fun w8 H8=>OE<|⟨fun hne => H8.pick [1] (by decide), ?_⟩
 refine cZ e122<|Zf rfl fl57_4 rfl<|MO rfl<|OW ty55 H8 0 rfl rfl rfl rfl (by first | (simp; done) | simp [putAt]) rfl<|fun w9 H9=>OE<|⟨fun hne => absurd rfl hne, ?_⟩
 refine cZ e122<|ME<|cR e122<|J2<|Xf fl57_1 rfl<|OV (EL ty54 rfl (H9.cell (i := 0) rfl rfl))<|Xf fl45_4 rfl<|Xf fl41_0 rfl<|cOp e122<|OV (EL ty3 rfl (H9.cell (i := 1) rfl rfl))<|OQ (EC gf45 rfl) (behind_r A1 k1 pv s.votes n.entry.slot ok _ hpv (hrv.to0 H9) (hav2.imp fun p x h => h.to H9 k0) (by omega)) ?_
 rintro _ w10 ⟨g3, cap3, sp3, rfl, hG3, Hc⟩
 have H10 := H9.call0 Hc
 have hBL : (pv.filter fun p => !vtLe n.entry.slot p).length = (behind s.votes n.entry.slot).length := (behind_rows hav2).len
 rw [hBL]
 refine Xf fl57_1 rfl<|OW ty54 H10 0 rfl rfl rfl rfl (by first | (simp; done) | simp [putAt]) rfl<|fun w11 H11=>Xr e122<|run_nil (blk_normal ?_)
 refine Rq<|OV (EN ty57 rfl (vs := [.int .i64 s.p.r, .int .i64 s.p.n, .slice (hd g3) (behind s.votes n.entry.slot).length cap3, .int .i64 n.entry.slot, .slice B2 n.entry.val.length j2, .slice (hd g) (s.entries.filter fun x => decide (n.entry.slot < x.slot)).length cap]) rfl (H11.cellsR (i := 0) rfl rfl))<|OS ty57 H11 2 rfl rfl rfl rfl rfl (by first | decide | (simp; done) | simp [putAt]) rfl<|fun w12 H12=>Xr e122<|J5<|fin_cell rfl ty57 (cs := [.int .i64 s.p.r, .int .i64 s.p.n, .slice (hd g3) (behind s.votes n.entry.slot).length cap3, .int .i64 n.entry.slot, .slice B2 n.entry.val.length j2, .slice (hd g) (s.entries.filter fun x => decide (n.entry.slot < x.slot)).length cap]) rfl rfl (H12.cellsR (i := 2) rfl rfl) ?_
 have h0 : imgEn s.entries n.entry.slot = (s.entries.filter fun x => decide (n.entry.slot < x.slot)) := by
   unfold imgEn
   have : (s.entries.filter fun x => decide (n.entry.slot < x.slot)) = [] := List.eq_nil_of_length_eq_zero (by omega)
   rw [this]
 refine ⟨_, rfl, ?_, H12.noRows⟩
 rw [goes4 (by omega), if_neg (by omega), h0]
 exact ⟨hd g3, cap3, B2, j2, hd g, cap, rfl, Sl.row H12 (i := 4) rfl hG3.2.2.2 (by decide) (behind_rows (hav2.imp fun p x h => h.to H12 up_k0)) (row_new H12 (i := 4) rfl (fun _ h => by cases h)), hbe.to H12 up_k0, Sl.row H12 (i := 3) rfl hG.2.2.2 (by decide) (hef.imp fun p x h => h.to H12 up_k0) (row_new H12 (i := 3) rfl (fun _ h => by cases h))⟩
end Go.Proofs.YtbninklfoogmdaaGreat
