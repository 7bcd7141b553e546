/- Walks of layer 2, printed by wip/gen/codec.py. -/
import Derived.Test.YtbninklfoogmdaaGreatNf
import Derived.Test.YtbninklfoogmdaaGreatVy
import Derived.Test.YtbninklfoogmdaaGreatVaA
namespace Go.Proofs.YtbninklfoogmdaaGreat
open Go Go.RowKit
set_option linter.unusedVariables false
attribute [local irreducible] Still Ops Does Cd
set_option maxRecDepth 100000 in
set_option maxHeartbeats 4000000 in
theorem right16 (A : Option Addr) (k : Nat) (l : List Rt) (ok : Nat → Prop) (w0 : World) (hl : Sl RtR 4 w0 ok A l) (hn : l.length ≤ 1000000000000) (hso : rtsOk l) : Does Tryz.prog 38 #[.slice A l.length k] w0 (fun r w' => r = .bool true ∧ Hp w0 w' [] []) := by
 refine does_of Tryz.func38 Tryz.ntmps38 rfl<|cR e33 ?_
 have H := Hp.refl w0
 obtain ⟨ps, hp, hr, ha, h2⟩ := id hl
 have hlen := h2.len
 obtain ⟨hmays, hrise⟩ := rts_rise hso
 refine Rq<|Xa rfl<|Xr e33<|J1<|Rq<|Xa rfl<|Xr e33<|J7<|run_loop (fun nQ lQ w => ∃ (i : Nat) (y : Int), l.length - i = nQ ∧ Fits [some (.slice A l.length k), none, none, some (.int .i64 y), none, none, none, none, none, none, none, none, none, none, none, none, none, none, none, none, none, none, none, none, none, none, none, none, none, none, none, none, none] lQ ∧ y = (i : Int) ∧ i ≤ l.length ∧ Hp w0 w [] []) (l.length) ?_ ?_
 exact ⟨0, _, rfl, (fs (fn (fn (fs (fn (fn (fn (fn (fn (fn (fn (fn (fn (fn (fn (fn (fn (fn (fn (fn (fn (fn (fn (fn (fn (fn (fn (fn (fn (fn (fn (fn (fn f0))))))))))))))))))))))))))))))))), rfl, Nat.zero_le _, H⟩
 rintro nQ lQ w1 ⟨i, y, rfl, hfit, rfl, hi, H1⟩
 obtain ⟨j, rfl⟩ := hfit.open
 refine cR e33 ?_
 clear hfit
 refine J1<|Rq<|Xm rfl<|Xm rfl<|OV (ES Tryz.underlying24 rfl)<|OT (ex_lss rfl rfl) (fun hp7 => ?_) (fun hp7 => ?_)
 have hil : i < l.length := by omega
 obtain ⟨x, hx⟩ := get_of hil
 obtain ⟨p1, hp1, hR⟩ := h2.get hx
 unfold RtR at hR
 subst hR
 obtain ⟨a1, ha1⟩ := hr.some_ (by omega)
 subst ha1
 have hmay := hmays x (mem_of hx)
 refine Xr e33<|J3 rfl<|J6<|J1<|J7<|J1<|run_mixZ 22 [(true, 0), (true, 1), (true, 2), (true, 3), (false, 4), (true, 5), (true, 6), (true, 7), (true, 8), (true, 9), (true, 10), (true, 11), (true, 12), (true, 13), (true, 14), (true, 15), (true, 16), (true, 17), (true, 18), (false, 19), (true, 20), (true, 21), (false, 22)] H1 [] mixed (by decide) (by kernel_rfl) ?_
 rintro w2 hw2
 have H2 := Hp.drew H1; rw [← hw2] at H2
 refine Zm rfl rfl<|Zm rfl rfl<|MP rfl<|MV (fun wz hz => EI Tryz.underlying24 ty43 rfl rfl (len := l.length) (i := i) (by omega) (by omega) rfl)<|MP rfl<|MV (fun wz hz => EN ty43 rfl (vs := [.int .i64 x.g, strV x.key, .int .i64 x.lease, .int .i64 x.net]) rfl ((hr.to0 hz).elem hp hp1))<|cZ e33<|MO rfl<|ops_call_true (EC gf39 rfl) (may16 _ _) (hmay)<|fun w3 Hd=>have H3:=H2.callN Hd;OE<|⟨fun hne => H3.pick [] (by decide), ?_⟩
 refine cZ e33<|MP rfl<|MV (fun wz hz => ex_not rfl)<|Zm rfl rfl<|MP rfl<|MY rfl<|MV (fun wz hz => ex_move rfl)<|MP rfl<|MY rfl<|mix1_test (fun wz hz => ex_gtr rfl rfl) (fun hp18 => ?_) (fun hp18 => ?_)
 obtain ⟨y, hy⟩ := get_of (l := l) (j := i - 1) (by omega)
 obtain ⟨p2, hp2, hR2⟩ := h2.get hy
 unfold RtR at hR2
 subst hR2
 have hlt := hrise (i - 1) i y x (by omega) hy hx
 refine MP rfl<|MY rfl<|MV (fun wz hz => ex_move rfl)<|cZ e33<|MP rfl<|MY rfl<|MV (fun wz hz => ex_move rfl)<|MP rfl<|MY rfl<|MV (fun wz hz => ex_move rfl)<|MP rfl<|MY rfl<|MV (fun wz hz => ex_sub rfl rfl (IntWalk.i64_in _ (by omega)))<|MP rfl<|MY rfl<|MV (fun wz hz => EI Tryz.underlying24 ty43 rfl rfl (len := l.length) (i := i - 1) (by omega) (by omega) rfl)<|cZ e33<|MP rfl<|MY rfl<|MV (fun wz hz => EN ty43 rfl (vs := [.int .i64 y.g, strV y.key, .int .i64 y.lease, .int .i64 y.net]) rfl ((hr.to0 hz).elem hp hp2))<|MP rfl<|MY rfl<|MV (fun wz hz => ex_move rfl)<|MP rfl<|MY rfl<|MV (fun wz hz => ex_move rfl)<|MP rfl<|MY rfl<|MV (fun wz hz => EI Tryz.underlying24 ty43 rfl rfl (len := l.length) (i := i) (by omega) (by omega) rfl)<|cZ e33<|MP rfl<|MY rfl<|MV (fun wz hz => EN ty43 rfl (vs := [.int .i64 x.g, strV x.key, .int .i64 x.lease, .int .i64 x.net]) rfl ((hr.to0 hz).elem hp hp1))<|MO rfl<|OY rfl<|ops_call_true (EC gf40 rfl) (below16 _ _ _) (hlt)<|fun w4 Hd=>have H4:=H3.callN Hd;OE<|⟨fun hne => H4.pick [] (by decide), ?_⟩
 refine cZ e33<|MP rfl<|MY rfl<|MV (fun wz hz => ex_not rfl)<|MP rfl<|MY rfl<|MV (fun wz hz => ex_pick_t rfl rfl)<|MO rfl<|Xu rfl rfl<|OE<|⟨fun hne => absurd rfl hne, ?_⟩
 refine cZ e33<|ME<|cR e33<|J4 rfl<|J6<|run_nil (blk_normal ?_)
 refine J2<|Xm rfl<|OV (ex_add rfl rfl (IntWalk.i64_in _ (by omega)))<|Xa rfl<|Xr e33<|run_nil (rnd_normal ?_)
 exact ⟨l.length - (i + 1), by omega, i + 1, _, rfl, (fs (fn (fn (fs (fn (fn (fn (fn (fn (fn (fn (fn (fn (fn (fn (fn (fn (fn (fn (fn (fn (fn (fn (fn (fn (fn (fn (fn (fn (fn (fn (fn (fn f0))))))))))))))))))))))))))))))))), by omega, by omega, H4.noRows⟩
 refine MP rfl<|MY rfl<|MV (fun wz hz => ex_move rfl)<|cZ e33<|MP rfl<|MZ rfl<|MP rfl<|MZ rfl<|cZ e33<|MP rfl<|MZ rfl<|MP rfl<|MZ rfl<|cZ e33<|MP rfl<|MZ rfl<|MP rfl<|MZ rfl<|cZ e33<|MP rfl<|MZ rfl<|MP rfl<|MZ rfl<|cZ e33<|MP rfl<|MZ rfl<|MO rfl<|OZ rfl<|OE<|⟨fun hne => H3.pick [] (by decide), ?_⟩
 refine cZ e33<|MP rfl<|MZ rfl<|MP rfl<|MY rfl<|MV (fun wz hz => ex_pick_f rfl rfl)<|MO rfl<|Xu rfl rfl<|OE<|⟨fun hne => absurd rfl hne, ?_⟩
 refine cZ e33<|ME<|cR e33<|J4 rfl<|J6<|run_nil (blk_normal ?_)
 refine J2<|Xm rfl<|OV (ex_add rfl rfl (IntWalk.i64_in _ (by omega)))<|Xa rfl<|Xr e33<|run_nil (rnd_normal ?_)
 exact ⟨l.length - (i + 1), by omega, i + 1, _, rfl, (fs (fn (fn (fs (fn (fn (fn (fn (fn (fn (fn (fn (fn (fn (fn (fn (fn (fn (fn (fn (fn (fn (fn (fn (fn (fn (fn (fn (fn (fn (fn (fn (fn f0))))))))))))))))))))))))))))))))), by omega, by omega, H3.noRows⟩
 refine Xr e33<|J4 rfl<|J8<|rnd_exit<|blk_exit<|Rq<|Xa rfl<|Xr e33<|J5<|FN1 rfl rfl<|⟨rfl, H1.noRows⟩
set_option maxRecDepth 100000 in
set_option maxHeartbeats 16000000 in
theorem put16 (x0 : Rt) (A : Option Addr) (k : Nat) (l : List Rt) (ok : Nat → Prop) (w0 : World) (hl : Sl RtR 4 w0 ok A l) (hn : l.length ≤ 1000000000000) (hso : rtsOk l) : Does Tryz.prog 20 #[.slice A l.length k, .agg [.int .i64 x0.g, strV x0.key, .int .i64 x0.lease, .int .i64 x0.net].toArray] w0 (fun r w' => (mayR x0 → ∃ A' k', r = .tuple #[.slice A' (putRt l x0).length k', .int .i64 0] ∧ Sl RtR 4 w' (fun b => w0.heap.size ≤ b) A' (putRt l x0)) ∧ (¬ mayR x0 → r = .tuple #[.slice none 0 0, .int .i64 1]) ∧ Hp w0 w' [] []) := by
 refine does_of Tryz.func20 Tryz.ntmps20 rfl<|cR e53 ?_
 have H := Hp.refl w0
 obtain ⟨ps, hp, hr, ha, h2⟩ := id hl
 have hlen := h2.len
 obtain ⟨hmays, hrise⟩ := rts_rise hso
 refine Rq<|ops_box rfl rfl H<|fun w1 gx H1 _=>Xa rfl<|Xa rfl<|Xr e53<|J1<|Rq<|Xm rfl<|OC (EC gf38 rfl) (right16 A k l ok _ (hl.toR H1 k0) hn hso)<|fun w2 Hd=>have H2:=H1.callN Hd;Xn rfl<|Xr e53<|J4 rfl<|J6<|J1<|Rq<|OV (EN ty43 rfl (vs := [.int .i64 x0.g, strV x0.key, .int .i64 x0.lease, .int .i64 x0.net]) rfl (H2.cellsR (i := 0) rfl rfl))<|OX (EC gf39 rfl) (may16 _ _) (fun hp13 w3 Hd => ?_) (fun hp13 w3 Hd => ?_)
 have H3 := H2.callN Hd
 refine Xn rfl<|Xr e53<|J4 rfl<|J6<|Rq<|Xa rfl<|Xa rfl<|Xr e53<|J1<|Rq<|Xa rfl<|Xr e53<|J7<|run_loop (fun nQ lQ w => ∃ (i : Nat) (y : Int) (g : Option Nat) (cap : Nat) (us : List Rt) (sp : List Value) (g6 : Option Nat) (cap6 : Nat) (vs : List Rt) (sp6 : List Value), l.length - i = nQ ∧ Fits [some (.slice A l.length k), none, none, some (.pointer (some ⟨gx, 0, none⟩)), none, none, some (.slice (hd g) (us.map rtC).length cap), some (.slice (hd g6) (vs.map rtC).length cap6), some (.int .i64 y), none, none, none, none, none, none, none, none, none, none, none, none, none, none, none, none, none, none, none, none, none, none, none, none, none, none, none, none, none, none, none, none, none, none, none, none, none, none, none, none, none, none, none, none] lQ ∧ y = (i : Int) ∧ i ≤ l.length ∧ us = (l.take i).filter (fun z => ltR z x0) ∧ vs = (l.take i).filter (fun z => ltR x0 z) ∧ Gw 4 g cap (us.map rtC) sp ∧ Gw 4 g6 cap6 (vs.map rtC) sp6 ∧ Hp w0 w [] [((some gx, 43, [.int .i64 x0.g, strV x0.key, .int .i64 x0.lease, .int .i64 x0.net]) : Ent), ((g, 43, (us.map rtC).flatten ++ sp) : Ent), ((g6, 43, (vs.map rtC).flatten ++ sp6) : Ent)]) (l.length) ?_ ?_
 exact ⟨0, _, none, 0, [], [], none, 0, [], [], rfl, (fs (fn (fn (fs (fn (fn (fs (fs (fs (fn (fn (fn (fn (fn (fn (fn (fn (fn (fn (fn (fn (fn (fn (fn (fn (fn (fn (fn (fn (fn (fn (fn (fn (fn (fn (fn (fn (fn (fn (fn (fn (fn (fn (fn (fn (fn (fn (fn (fn (fn (fn (fn (fn f0))))))))))))))))))))))))))))))))))))))))))))))))))))), rfl, Nat.zero_le _, rfl, rfl, Gw.nil 4, Gw.nil 4, (H3.nil 43).nil 43⟩
 rintro nQ lQ w4 ⟨i, y, g, cap, us, sp, g6, cap6, vs, sp6, rfl, hfit, rfl, hi, hus, hvs, hG, hG6, H4⟩
 obtain ⟨j, rfl⟩ := hfit.open
 refine cR e53 ?_
 clear hfit
 refine J1<|Rq<|Xm rfl<|Xm rfl<|OV (ES Tryz.underlying24 rfl)<|OT (ex_lss rfl rfl) (fun hp18 => ?_) (fun hp18 => ?_)
 have hil : i < l.length := by omega
 obtain ⟨x, hx⟩ := get_of hil
 obtain ⟨p1, hp1, hR⟩ := h2.get hx
 unfold RtR at hR
 subst hR
 obtain ⟨a1, ha1⟩ := hr.some_ (by omega)
 subst ha1
 have hmay := hmays x (mem_of hx)
 have hul : us.length ≤ i := by rw [hus]; exact tf_len
 have hvl : vs.length ≤ i := by rw [hvs]; exact tf_len
 refine Xr e53<|J3 rfl<|J6<|J1<|J7<|J1<|J1<|run_mixZ 5 [(true, 0), (true, 1), (true, 2), (true, 3), (true, 4), (false, 5)] H4 [0, 1, 2] mixed (by decide) (by kernel_rfl) ?_
 rintro w5 hw5
 have H5 := Hp.drew H4; rw [← hw5] at H5
 refine Zm rfl rfl<|Zm rfl rfl<|MP rfl<|MV (fun wz hz => EI Tryz.underlying24 ty43 rfl rfl (len := l.length) (i := i) (by omega) (by omega) rfl)<|MP rfl<|MV (fun wz hz => EN ty43 rfl (vs := [.int .i64 x.g, strV x.key, .int .i64 x.lease, .int .i64 x.net]) rfl ((hr.to0 hz).elem hp hp1))<|cZ e53<|MP rfl<|MV (fun wz hz => EN ty43 rfl (vs := [.int .i64 x0.g, strV x0.key, .int .i64 x0.lease, .int .i64 x0.net]) rfl (hz.cellsR (i := 0) rfl rfl))<|MO rfl<|OX (EC gf40 rfl) (below16 _ _ _) (fun hp26 w6 Hd => ?_) (fun hp26 w6 Hd => ?_)
 have H6 := H5.callN Hd
 refine OE ?_
 refine ⟨fun hne => absurd rfl hne, ?_⟩
 refine ME<|cR e53<|J3 rfl<|J2<|Xm rfl<|Xm rfl<|Xm rfl<|OV (EI Tryz.underlying24 ty43 rfl rfl (len := l.length) (i := i) (by omega) (by omega) rfl)<|cOp e53<|OV (EN ty43 rfl (vs := [.int .i64 x.g, strV x.key, .int .i64 x.lease, .int .i64 x.net]) rfl ((hr.to0 H6).elem hp hp1))<|ops_buildSlice Tryz.underlying24 ty43 H6 (cs := [.int .i64 x.g, strV x.key, .int .i64 x.lease, .int .i64 x.net]) rfl (by decide) rfl<|fun w7 gk H7 _=>ops_grow Tryz.underlying24 ty43 (by decide) H7 1 (qs := us.map rtC) hG rfl rfl (rs := [[.int .i64 x.g, strV x.key, .int .i64 x.lease, .int .i64 x.net]]) (m := 1) rfl rfl (H7.rd (i := 3) (o := some _) (xs := [.int .i64 x.g, strV x.key, .int .i64 x.lease, .int .i64 x.net]) (sp := []) rfl rfl (by decide)) (Pl.one rfl) (fun p hp => by rw [List.mem_singleton.1 hp]; rfl) (by rw [List.length_map]; omega) (by rw [List.length_map]; omega) (by decide)<|fun w8 g2 cap2 sp2 H8 hG2=>?_
 have hm2 : us.map rtC ++ [[.int .i64 x.g, strV x.key, .int .i64 x.lease, .int .i64 x.net]] = (us ++ [x]).map rtC := by rw [List.map_append]; rfl
 rw [hm2] at H8 hG2 ⊢
 refine Xa rfl<|Xr e53<|J1<|run_mixZ 5 [(true, 0), (true, 1), (true, 2), (true, 3), (true, 4), (false, 5)] H8 [0, 1, 2, 3] mixed (by decide) (by kernel_rfl) ?_
 rintro w9 hw9
 have H9 := Hp.drew H8; rw [← hw9] at H9
 refine MP rfl<|MV (fun wz hz => EN ty43 rfl (vs := [.int .i64 x0.g, strV x0.key, .int .i64 x0.lease, .int .i64 x0.net]) rfl (hz.cellsR (i := 0) rfl rfl))<|Zm rfl rfl<|Zm rfl rfl<|MP rfl<|MV (fun wz hz => EI Tryz.underlying24 ty43 rfl rfl (len := l.length) (i := i) (by omega) (by omega) rfl)<|cZ e53<|MP rfl<|MV (fun wz hz => EN ty43 rfl (vs := [.int .i64 x.g, strV x.key, .int .i64 x.lease, .int .i64 x.net]) rfl ((hr.to0 hz).elem hp hp1))<|MO rfl<|OX (EC gf40 rfl) (below16 _ _ _) (fun hp39 w10 Hd => ?_) (fun hp39 w10 Hd => ?_)
 have H10 := H9.callN Hd
 refine OE ?_
 refine ⟨fun hne => absurd rfl hne, ?_⟩
 refine ME<|cR e53<|J3 rfl<|J2<|Xm rfl<|Xm rfl<|Xm rfl<|OV (EI Tryz.underlying24 ty43 rfl rfl (len := l.length) (i := i) (by omega) (by omega) rfl)<|cOp e53<|OV (EN ty43 rfl (vs := [.int .i64 x.g, strV x.key, .int .i64 x.lease, .int .i64 x.net]) rfl ((hr.to0 H10).elem hp hp1))<|ops_buildSlice Tryz.underlying24 ty43 H10 (cs := [.int .i64 x.g, strV x.key, .int .i64 x.lease, .int .i64 x.net]) rfl (by decide) rfl<|fun w11 gq H11 _=>ops_grow Tryz.underlying24 ty43 (by decide) H11 2 (qs := vs.map rtC) hG6 rfl rfl (rs := [[.int .i64 x.g, strV x.key, .int .i64 x.lease, .int .i64 x.net]]) (m := 1) rfl rfl (H11.rd (i := 4) (o := some _) (xs := [.int .i64 x.g, strV x.key, .int .i64 x.lease, .int .i64 x.net]) (sp := []) rfl rfl (by decide)) (Pl.one rfl) (fun p hp => by rw [List.mem_singleton.1 hp]; rfl) (by rw [List.length_map]; omega) (by rw [List.length_map]; omega) (by decide)<|fun w12 g5 cap5 sp5 H12 hG5=>?_
 have hm5 : vs.map rtC ++ [[.int .i64 x.g, strV x.key, .int .i64 x.lease, .int .i64 x.net]] = (vs ++ [x]).map rtC := by rw [List.map_append]; rfl
 rw [hm5] at H12 hG5 ⊢
 refine Xa rfl<|Xr e53<|run_nil (blk_normal ?_)
 refine J2<|Xm rfl<|OV (ex_add rfl rfl (IntWalk.i64_in _ (by omega)))<|Xa rfl<|Xr e53<|run_nil (rnd_normal ?_)
 exact ⟨l.length - (i + 1), by omega, i + 1, _, g2, cap2, us ++ [x], sp2, g5, cap5, vs ++ [x], sp5, rfl, (fs (fn (fn (fs (fn (fn (fs (fs (fs (fn (fn (fn (fn (fn (fn (fn (fn (fn (fn (fn (fn (fn (fn (fn (fn (fn (fn (fn (fn (fn (fn (fn (fn (fn (fn (fn (fn (fn (fn (fn (fn (fn (fn (fn (fn (fn (fn (fn (fn (fn (fn (fn (fn f0))))))))))))))))))))))))))))))))))))))))))))))))))))), by omega, by omega, by rw [hus, tf_t hx hp26], by rw [hvs, tf_t hx hp39], hG2, hG5, H12.pick [0, 1, 2] (by decide)⟩
 have H10 := H9.callN Hd
 refine OE ?_
 refine ⟨fun hne => absurd rfl hne, ?_⟩
 refine ME<|cR e53<|J4 rfl<|J6<|run_nil (blk_normal ?_)
 refine J2<|Xm rfl<|OV (ex_add rfl rfl (IntWalk.i64_in _ (by omega)))<|Xa rfl<|Xr e53<|run_nil (rnd_normal ?_)
 exact ⟨l.length - (i + 1), by omega, i + 1, _, g2, cap2, us ++ [x], sp2, g6, cap6, vs, sp6, rfl, (fs (fn (fn (fs (fn (fn (fs (fs (fs (fn (fn (fn (fn (fn (fn (fn (fn (fn (fn (fn (fn (fn (fn (fn (fn (fn (fn (fn (fn (fn (fn (fn (fn (fn (fn (fn (fn (fn (fn (fn (fn (fn (fn (fn (fn (fn (fn (fn (fn (fn (fn (fn (fn f0))))))))))))))))))))))))))))))))))))))))))))))))))))), by omega, by omega, by rw [hus, tf_t hx hp26], by rw [hvs, tf_f hx (by simpa using hp39)], hG2, hG6, H10.pick [0, 1, 2] (by decide)⟩
 have H6 := H5.callN Hd
 refine OE ?_
 refine ⟨fun hne => absurd rfl hne, ?_⟩
 refine ME<|cR e53<|J4 rfl<|J6<|J1<|run_mixZ 5 [(true, 0), (true, 1), (true, 2), (true, 3), (true, 4), (false, 5)] H6 [0, 1, 2] mixed (by decide) (by kernel_rfl) ?_
 rintro w7 hw7
 have H7 := Hp.drew H6; rw [← hw7] at H7
 refine MP rfl<|MV (fun wz hz => EN ty43 rfl (vs := [.int .i64 x0.g, strV x0.key, .int .i64 x0.lease, .int .i64 x0.net]) rfl (hz.cellsR (i := 0) rfl rfl))<|Zm rfl rfl<|Zm rfl rfl<|MP rfl<|MV (fun wz hz => EI Tryz.underlying24 ty43 rfl rfl (len := l.length) (i := i) (by omega) (by omega) rfl)<|cZ e53<|MP rfl<|MV (fun wz hz => EN ty43 rfl (vs := [.int .i64 x.g, strV x.key, .int .i64 x.lease, .int .i64 x.net]) rfl ((hr.to0 hz).elem hp hp1))<|MO rfl<|OX (EC gf40 rfl) (below16 _ _ _) (fun hp39 w8 Hd => ?_) (fun hp39 w8 Hd => ?_)
 have H8 := H7.callN Hd
 refine OE ?_
 refine ⟨fun hne => absurd rfl hne, ?_⟩
 refine ME<|cR e53<|J3 rfl<|J2<|Xm rfl<|Xm rfl<|Xm rfl<|OV (EI Tryz.underlying24 ty43 rfl rfl (len := l.length) (i := i) (by omega) (by omega) rfl)<|cOp e53<|OV (EN ty43 rfl (vs := [.int .i64 x.g, strV x.key, .int .i64 x.lease, .int .i64 x.net]) rfl ((hr.to0 H8).elem hp hp1))<|ops_buildSlice Tryz.underlying24 ty43 H8 (cs := [.int .i64 x.g, strV x.key, .int .i64 x.lease, .int .i64 x.net]) rfl (by decide) rfl<|fun w9 gq H9 _=>ops_grow Tryz.underlying24 ty43 (by decide) H9 2 (qs := vs.map rtC) hG6 rfl rfl (rs := [[.int .i64 x.g, strV x.key, .int .i64 x.lease, .int .i64 x.net]]) (m := 1) rfl rfl (H9.rd (i := 3) (o := some _) (xs := [.int .i64 x.g, strV x.key, .int .i64 x.lease, .int .i64 x.net]) (sp := []) rfl rfl (by decide)) (Pl.one rfl) (fun p hp => by rw [List.mem_singleton.1 hp]; rfl) (by rw [List.length_map]; omega) (by rw [List.length_map]; omega) (by decide)<|fun w10 g5 cap5 sp5 H10 hG5=>?_
 have hm5 : vs.map rtC ++ [[.int .i64 x.g, strV x.key, .int .i64 x.lease, .int .i64 x.net]] = (vs ++ [x]).map rtC := by rw [List.map_append]; rfl
 rw [hm5] at H10 hG5 ⊢
 refine Xa rfl<|Xr e53<|run_nil (blk_normal ?_)
 refine J2<|Xm rfl<|OV (ex_add rfl rfl (IntWalk.i64_in _ (by omega)))<|Xa rfl<|Xr e53<|run_nil (rnd_normal ?_)
 exact ⟨l.length - (i + 1), by omega, i + 1, _, g, cap, us, sp, g5, cap5, vs ++ [x], sp5, rfl, (fs (fn (fn (fs (fn (fn (fs (fs (fs (fn (fn (fn (fn (fn (fn (fn (fn (fn (fn (fn (fn (fn (fn (fn (fn (fn (fn (fn (fn (fn (fn (fn (fn (fn (fn (fn (fn (fn (fn (fn (fn (fn (fn (fn (fn (fn (fn (fn (fn (fn (fn (fn (fn f0))))))))))))))))))))))))))))))))))))))))))))))))))))), by omega, by omega, by rw [hus, tf_f hx (by simpa using hp26)], by rw [hvs, tf_t hx hp39], hG, hG5, H10.pick [0, 1, 2] (by decide)⟩
 have H8 := H7.callN Hd
 refine OE ?_
 refine ⟨fun hne => absurd rfl hne, ?_⟩
 refine ME<|cR e53<|J4 rfl<|J6<|run_nil (blk_normal ?_)
 refine J2<|Xm rfl<|OV (ex_add rfl rfl (IntWalk.i64_in _ (by omega)))<|Xa rfl<|Xr e53<|run_nil (rnd_normal ?_)
 exact ⟨l.length - (i + 1), by omega, i + 1, _, g, cap, us, sp, g6, cap6, vs, sp6, rfl, (fs (fn (fn (fs (fn (fn (fs (fs (fs (fn (fn (fn (fn (fn (fn (fn (fn (fn (fn (fn (fn (fn (fn (fn (fn (fn (fn (fn (fn (fn (fn (fn (fn (fn (fn (fn (fn (fn (fn (fn (fn (fn (fn (fn (fn (fn (fn (fn (fn (fn (fn (fn (fn f0))))))))))))))))))))))))))))))))))))))))))))))))))))), by omega, by omega, by rw [hus, tf_f hx (by simpa using hp26)], by rw [hvs, tf_f hx (by simpa using hp39)], hG, hG6, H8.pick [0, 1, 2] (by decide)⟩
 obtain rfl : i = l.length := by omega
 have hul : us.length ≤ l.length := by rw [hus]; exact tf_len
 have hvl : vs.length ≤ l.length := by rw [hvs]; exact tf_len
 rw [List.take_length] at hus hvs
 refine Xr e53<|J4 rfl<|J8<|rnd_exit<|blk_exit<|Rq<|Xm rfl<|OV (EN ty43 rfl (vs := [.int .i64 x0.g, strV x0.key, .int .i64 x0.lease, .int .i64 x0.net]) rfl (H4.cellsR (i := 0) rfl rfl))<|ops_buildSlice Tryz.underlying24 ty43 H4 (cs := [.int .i64 x0.g, strV x0.key, .int .i64 x0.lease, .int .i64 x0.net]) rfl (by decide) rfl<|fun w5 gk H5 _=>ops_grow Tryz.underlying24 ty43 (by decide) H5 1 (qs := us.map rtC) hG rfl rfl (rs := [[.int .i64 x0.g, strV x0.key, .int .i64 x0.lease, .int .i64 x0.net]]) (m := 1) rfl rfl (H5.rd (i := 3) (o := some _) (xs := [.int .i64 x0.g, strV x0.key, .int .i64 x0.lease, .int .i64 x0.net]) (sp := []) rfl rfl (by decide)) (Pl.one rfl) (fun p hp => by rw [List.mem_singleton.1 hp]; rfl) (by rw [List.length_map]; omega) (by rw [List.length_map]; omega) (by decide)<|fun w6 g2 cap2 sp2 H6 hG2=>?_
 have hm2 : us.map rtC ++ [[.int .i64 x0.g, strV x0.key, .int .i64 x0.lease, .int .i64 x0.net]] = (us ++ [x0]).map rtC := by rw [List.map_append]; rfl
 rw [hm2] at H6 hG2 ⊢
 refine cOp e53<|Xm rfl<|ops_grow Tryz.underlying24 ty43 (by decide) H6 1 (qs := (us ++ [x0]).map rtC) hG2 rfl rfl (rs := (vs.map rtC))  rfl rfl (H6.rd (i := 2) (xs := (vs.map rtC).flatten) (sp := sp6) rfl hG6.2.2.2.len (by decide)) hG6.2.2.2 (rt_ones vs) (by simp only [List.length_map, List.length_append, List.length_cons, List.length_nil]; omega) (by simp only [List.length_map, List.length_append, List.length_cons, List.length_nil]; omega) (by decide)<|fun w7 g5 cap5 sp5 H7 hG5=>Xa rfl<|Xa rfl<|Xr e53<|J5<|FN2 rfl rfl rfl ?_
 have hq : (us ++ [x0]).map rtC ++ vs.map rtC = (putRt l x0).map rtC := by rw [← putRt_rows, hus, hvs, List.map_append]; rfl
 rw [hq] at H7 hG5 ⊢
 rw [List.length_map]
 refine ⟨fun _ => ⟨hd g5, cap5, rfl, Sl.row H7 (i := 1) rfl (rt_pl _) (by decide) (rt_rows _) (fun b hb => ?_)⟩, fun h => absurd hp13 h, H7.noRows⟩
 rcases H7.place (i := 1) (g := b) (by rw [hb]; rfl) with h | h
 cases h
 exact h
 have H3 := H2.callN Hd
 refine Xn rfl<|Xr e53<|J3 rfl<|Rq<|Xa rfl<|Xa rfl<|Xr e53<|J5<|FN2 rfl rfl rfl<|⟨fun h => absurd h hp13, fun _ => rfl, H3.noRows⟩
set_option maxRecDepth 100000 in
set_option maxHeartbeats 4000000 in
theorem right14 (A : Option Addr) (k : Nat) (l : List Mk)  (ok : Nat → Prop) (w0 : World) (hl : Sl MkR 7 w0 ok A l) (hso : mksOk 0 l) : Does Tryz.prog 41 #[.slice A l.length k] w0 (fun r w' => r = .bool true ∧ Hp w0 w' [] []) := by
 refine does_of Tryz.func41 Tryz.ntmps41 rfl<|cR e52 ?_
 have H := Hp.refl w0
 obtain ⟨ps, hp, hr, ha, h2⟩ := id hl
 have hlen := h2.len
 have hn := mks_len hso
 obtain ⟨hfit2, hrise⟩ := mks_rise hso
 refine Rq<|Xa rfl<|Xr e52<|Rq<|Xa rfl<|Xr e52<|J1<|Rq<|Xa rfl<|Xr e52<|J7<|run_loop (fun nQ lQ w => ∃ (i : Nat) (y m : Int), l.length - i = nQ ∧ Fits [some (.slice A l.length k), none, none, some (.int .i64 m), some (.int .i64 y), none, none, none, none, none, none, none, none, none, none, none, none, none, none, none, none, none, none, none, none, none, none, none, none, none, none, none, none, none, none, none, none, none, none, none, none, none, none, none, none, none, none, none, none, none, none, none] lQ ∧ y = (i : Int) ∧ i ≤ l.length ∧ mksOk m (l.drop i) ∧ Hp w0 w [] []) (l.length) ?_ ?_
 exact ⟨0, _, 0, rfl, (fs (fn (fn (fs (fs (fn (fn (fn (fn (fn (fn (fn (fn (fn (fn (fn (fn (fn (fn (fn (fn (fn (fn (fn (fn (fn (fn (fn (fn (fn (fn (fn (fn (fn (fn (fn (fn (fn (fn (fn (fn (fn (fn (fn (fn (fn (fn (fn (fn (fn (fn (fn f0)))))))))))))))))))))))))))))))))))))))))))))))))))), rfl, Nat.zero_le _, hso, H⟩
 rintro nQ lQ w1 ⟨i, y, m, rfl, hfit, rfl, hi, hinv, H1⟩
 obtain ⟨j, rfl⟩ := hfit.open
 refine cR e52 ?_
 clear hfit
 refine J1<|Rq<|Xm rfl<|Xm rfl<|OV (ES Tryz.underlying25 rfl)<|OT (ex_lss rfl rfl) (fun hp9 => ?_) (fun hp9 => ?_)
 have hil : i < l.length := by omega
 obtain ⟨x, hx⟩ := get_of hil
 obtain ⟨p1, hp1, hR⟩ := h2.get hx
 unfold MkR at hR
 subst hR
 obtain ⟨a1, ha1⟩ := hr.some_ (by omega)
 subst ha1
 rw [drop_cons hx] at hinv
 obtain ⟨hm1, hm2, hm3, hm4, hm5⟩ := hinv
 refine Xr e52<|J3 rfl<|J6<|J1<|J7<|Rq<|Xm rfl<|Xm rfl<|OV (EI Tryz.underlying25 ty63 rfl rfl rfl hil rfl)<|OV (EN ty63 rfl (vs := [.int .i64 x.client, .int .i64 x.seq, .bool false, .int .i64 0, .int .i64 0, .int .i64 0, .int .i64 0]) rfl ((hr.to0 H1).elem hp hp1))<|cOp e52<|OA ty63 H1<|fun w2 g2 H2 hg2=>OS ty63 H2 0 rfl rfl rfl rfl rfl (by first | decide | (simp; done) | simp [putAt]) rfl<|fun w3 H3=>Xr e52<|J1<|Rq<|Xf fl63_0 rfl<|OV (EL ty3 rfl (H3.cell (i := 0) rfl rfl))<|Xm rfl<|OT0 (ex_leq rfl rfl) (by omega)<|cOp e52<|Xm rfl<|OY rfl<|Xf fl63_0 rfl<|cOp e52<|OY rfl<|OV (EL ty3 rfl (H3.cell (i := 0) rfl rfl))<|OY rfl<|OT0 (ex_gtr rfl rfl) (by omega)<|Xu rfl rfl<|Xm rfl<|cOp e52<|OY rfl<|Xf fl63_1 rfl ?_
 refine OY rfl<|OV (EL ty3 rfl (H3.cell (i := 0) rfl rfl))<|cOp e52<|OY rfl<|OT0 (ex_lss rfl rfl) (by omega)<|Xu rfl rfl<|Xm rfl<|cOp e52<|OY rfl<|Xf fl63_1 rfl<|OY rfl<|OV (EL ty3 rfl (H3.cell (i := 0) rfl rfl))<|cOp e52<|OY rfl<|OT0 (ex_gtr rfl rfl) (by omega)<|Xu rfl rfl<|Xm rfl<|cOp e52<|OY rfl<|Xf fl63_2 rfl<|OY rfl<|OV (EL ty4 rfl (H3.cell (i := 0) rfl rfl))<|cOp e52<|OY rfl<|Xm rfl<|OZ rfl<|cOp e52<|OZ rfl<|OZ rfl<|cOp e52<|OZ rfl<|OZ rfl<|cOp e52<|OZ rfl<|OZ rfl<|cOp e52<|OZ rfl<|OZ rfl<|cOp e52<|OY rfl ?_
 refine Xu rfl rfl<|Xu rfl rfl<|Xr e52<|J4 rfl<|J6<|J2<|Xf fl63_0 rfl<|OV (EL ty3 rfl (H3.cell (i := 0) rfl rfl))<|Xa rfl<|Xr e52<|run_nil (blk_normal ?_)
 refine J2<|Xm rfl<|OV (ex_add rfl rfl (IntWalk.i64_in _ (by omega)))<|Xa rfl<|Xr e52<|run_nil (rnd_normal ?_)
 exact ⟨l.length - (i + 1), by omega, i + 1, _, x.client, rfl, (fs (fn (fn (fs (fs (fn (fn (fn (fn (fn (fn (fn (fn (fn (fn (fn (fn (fn (fn (fn (fn (fn (fn (fn (fn (fn (fn (fn (fn (fn (fn (fn (fn (fn (fn (fn (fn (fn (fn (fn (fn (fn (fn (fn (fn (fn (fn (fn (fn (fn (fn (fn f0)))))))))))))))))))))))))))))))))))))))))))))))))))), by omega, by omega, hm5, H3.noRows⟩
 refine Xr e52<|J4 rfl<|J8<|rnd_exit<|blk_exit<|Rq<|Xa rfl<|Xr e52<|J5<|FN1 rfl rfl<|⟨rfl, H1.noRows⟩
set_option maxRecDepth 100000 in
set_option maxHeartbeats 4000000 in
theorem find14 (A : Option Addr) (k : Nat) (l : List Mk) (c : Int) (ok : Nat → Prop) (w0 : World) (hl : Sl MkR 7 w0 ok A l) (hso : mksOk 0 l) : Does Tryz.prog 21 #[.slice A l.length k, .int .i64 c] w0 (fun r w' => (∀ m, findMk l c = some m → r = .tuple #[.agg (mkC m).toArray, .bool true]) ∧ (findMk l c = none → r = .tuple #[.agg (mkC ⟨0, 0⟩).toArray, .bool false]) ∧ Hp w0 w' [] []) := by
 refine does_of Tryz.func21 Tryz.ntmps21 rfl<|cR e29 ?_
 have H := Hp.refl w0
 obtain ⟨ps, hp, hr, ha, h2⟩ := id hl
 have hlen := h2.len
 have hn := mks_len hso
 obtain ⟨hfit2, hrise⟩ := mks_rise hso
 refine Rq<|OA ty63 H<|fun w1 gm H1 _=>Xa rfl<|Xr e29<|J1<|Rq<|Xa rfl<|Xr e29<|J7<|run_loop (fun nQ lQ w => ∃ (i : Nat) (y : Int), l.length - i = nQ ∧ Fits [some (.slice A l.length k), some (.int .i64 c), none, none, some (.pointer (some ⟨gm, 0, none⟩)), none, some (.int .i64 y), none, none, none, none, none, none, none, none, none, none, none, none, none, none, none, none, none, none, none, none, none, none] lQ ∧ y = (i : Int) ∧ i ≤ l.length ∧ (∀ z ∈ l.take i, z.client ≠ c) ∧ Hp w0 w [] [((some gm, 63, [.int .i64 0, .int .i64 0, .bool false, .int .i64 0, .int .i64 0, .int .i64 0, .int .i64 0]) : Ent)]) (l.length) ?_ ?_
 exact ⟨0, _, rfl, (fs (fs (fn (fn (fs (fn (fs (fn (fn (fn (fn (fn (fn (fn (fn (fn (fn (fn (fn (fn (fn (fn (fn (fn (fn (fn (fn (fn (fn f0))))))))))))))))))))))))))))), rfl, Nat.zero_le _, (fun z hz => by cases hz), H1⟩
 rintro nQ lQ w2 ⟨i, y, rfl, hfit, rfl, hi, hno, H2⟩
 obtain ⟨j, rfl⟩ := hfit.open
 refine cR e29 ?_
 clear hfit
 refine J1<|Rq<|Xm rfl<|OC (EC gf41 rfl) (right14 A k l ok _ (hl.toM H2 k0) hso)<|fun w3 Hd=>have H3:=H2.callN Hd;Xm rfl<|cOp e29<|OY rfl<|Xm rfl<|OY rfl<|Xm rfl<|cOp e29<|OY rfl<|OV (ES Tryz.underlying25 rfl)<|OY rfl<|OT (ex_lss rfl rfl) (fun hp13 => ?_) (fun hp13 => ?_)
 have hil : i < l.length := by omega
 obtain ⟨x, hx⟩ := get_of hil
 obtain ⟨p1, hp1, hR⟩ := h2.get hx
 unfold MkR at hR
 subst hR
 obtain ⟨a1, ha1⟩ := hr.some_ (by omega)
 subst ha1
 refine Xt rfl rfl<|Xr e29<|J3 rfl<|J6<|J1<|J7<|Rq<|Xm rfl<|Xm rfl<|OV (EI Tryz.underlying25 ty63 rfl rfl rfl hil rfl)<|OV (ex_fieldAddrA fl63_0 rfl)<|cOp e29<|OV (EL ty3 rfl (((hr.to0 H3).elem hp hp1) 0 _ rfl))<|Xm rfl<|OT (ex_eql rfl rfl) (fun hp23 => ?_) (fun hp23 => ?_)
 refine Xr e29<|J3 rfl<|Rq<|Xm rfl<|Xm rfl<|OV (EI Tryz.underlying25 ty63 rfl rfl rfl hil rfl)<|OV (EN ty63 rfl (vs := [.int .i64 x.client, .int .i64 x.seq, .bool false, .int .i64 0, .int .i64 0, .int .i64 0, .int .i64 0]) rfl ((hr.to0 H3).elem hp hp1))<|cOp e29<|OS ty63 H3 0 rfl rfl rfl rfl rfl (by first | decide | (simp; done) | simp [putAt]) rfl<|fun w4 H4=>Xa rfl<|Xr e29<|J5<|BR<|rnd_ret<|BR<|fin_cell_tmp rfl ty63 (cs := [.int .i64 x.client, .int .i64 x.seq, .bool false, .int .i64 0, .int .i64 0, .int .i64 0, .int .i64 0]) rfl rfl rfl (H4.cellsR (i := 0) rfl rfl) ?_
 have hf := find_at hx hp23 hno
 exact ⟨(fun m hm => by rw [hf] at hm; cases hm; rfl), (fun hm => by rw [hf] at hm; cases hm), H4.noRows⟩
 refine Xr e29<|J4 rfl<|J6<|run_nil (blk_normal ?_)
 refine J2<|Xm rfl<|OV (ex_add rfl rfl (IntWalk.i64_in _ (by omega)))<|Xa rfl<|Xr e29<|run_nil (rnd_normal ?_)
 exact ⟨l.length - (i + 1), by omega, i + 1, _, rfl, (fs (fs (fn (fn (fs (fn (fs (fn (fn (fn (fn (fn (fn (fn (fn (fn (fn (fn (fn (fn (fn (fn (fn (fn (fn (fn (fn (fn (fn f0))))))))))))))))))))))))))))), by omega, by omega, (fun z hz => by
   rw [List.take_add_one, hx] at hz
   rcases List.mem_append.1 hz with h | h
   · exact hno z h
   · rw [show z = x by simpa using h]; exact hp23), H3.pick [0] (by decide)⟩
 obtain rfl : i = l.length := by omega
 have hnone := find_end hno
 refine Xt rfl rfl<|Xr e29<|J4 rfl<|J8<|rnd_exit<|blk_exit<|Rq<|OV (EB ty63 pl63 rfl rfl)<|OS ty63 H3 0 rfl rfl rfl rfl rfl (by first | decide | (simp; done) | simp [putAt]) rfl<|fun w4 H4=>Xa rfl<|Xr e29<|J5<|fin_cell_tmp rfl ty63 (cs := [.int .i64 0, .int .i64 0, .bool false, .int .i64 0, .int .i64 0, .int .i64 0, .int .i64 0]) rfl rfl rfl (H4.cellsR (i := 0) rfl rfl)<|⟨(fun m hm => by rw [hnone] at hm; cases hm), (fun _ => rfl), H4.noRows⟩
set_option maxRecDepth 100000 in
set_option maxHeartbeats 16000000 in
theorem with14 (A : Option Addr) (k : Nat) (l : List Mk) (v : Mk) (ok : Nat → Prop) (w0 : World) (hl : Sl MkR 7 w0 ok A l) (hso : mksOk 0 l) (hv1 : 1 ≤ v.client ∧ v.client ≤ 8) (hv2 : 1 ≤ v.seq ∧ v.seq ≤ 4611686018427387904) : Does Tryz.prog 24 #[.slice A l.length k, .agg [.int .i64 v.client, .int .i64 v.seq, .bool false, .int .i64 0, .int .i64 0, .int .i64 0, .int .i64 0].toArray] w0 (fun r w' => ∃ A' k', r = .slice A' (putMk l v).length k' ∧ Sl MkR 7 w' (fun b => w0.heap.size ≤ b) A' (putMk l v) ∧ Hp w0 w' [] []) := by
 refine does_of Tryz.func24 Tryz.ntmps24 rfl<|cR e35 ?_
 have H := Hp.refl w0
 obtain ⟨ps, hp, hr, ha, h2⟩ := id hl
 have hlen := h2.len
 have hn := mks_len hso
 obtain ⟨hfit2, hrise⟩ := mks_rise hso
 have hput := mks_put hso hv1 hv2
 have hpl := mks_len hput
 refine Rq<|ops_box rfl rfl H<|fun w1 gv H1 _=>Xa rfl<|Xr e35<|Rq<|Xa rfl<|Xr e35<|J1<|Rq<|Xa rfl<|Xr e35<|J7<|run_loop (fun nQ lQ w => ∃ (y : Int) (g : Option Nat) (cap : Nat) (ms : List Mk) (sp : List Value), (9 - y).toNat = nQ ∧ Fits [some (.slice A l.length k), none, none, some (.pointer (some ⟨gv, 0, none⟩)), none, some (.slice (hd g) (ms.map mkC).length cap), some (.int .i64 y), none, none, none, none, none, none, none, none, none, none, none, none, none, none, none, none, none, none, none, none, none, none, none, none, none, none, none, none] lQ ∧ 1 ≤ y ∧ y ≤ 9 ∧ ms = ((putMk l v).filter fun z => decide (z.client < y)) ∧ Gw 7 g cap (ms.map mkC) sp ∧ Hp w0 w [] [((some gv, 63, [.int .i64 v.client, .int .i64 v.seq, .bool false, .int .i64 0, .int .i64 0, .int .i64 0, .int .i64 0]) : Ent), ((g, 63, (ms.map mkC).flatten ++ sp) : Ent)]) (8) ?_ ?_
 exact ⟨1, none, 0, [], [], rfl, (fs (fn (fn (fs (fn (fs (fs (fn (fn (fn (fn (fn (fn (fn (fn (fn (fn (fn (fn (fn (fn (fn (fn (fn (fn (fn (fn (fn (fn (fn (fn (fn (fn (fn (fn f0))))))))))))))))))))))))))))))))))), by decide, by decide, (none_put hput).symm, Gw.nil 7, H1.nil 63⟩
 rintro nQ lQ w2 ⟨y, g, cap, ms, sp, rfl, hfit, hy1, hy9, hms, hG, H2⟩
 obtain ⟨j, rfl⟩ := hfit.open
 refine cR e35 ?_
 clear hfit
 refine J1<|Rq<|Xm rfl<|OT (ex_leq rfl rfl) (fun hp10 => ?_) (fun hp10 => ?_)
 have hml : ms.length ≤ (putMk l v).length := by rw [hms]; exact List.length_filter_le _ _
 have hst := step_mk (c := y) hput
 rw [← hms, find_put] at hst
 refine Xr e35<|J3 rfl<|J6<|J1<|J7<|Rq<|Xm rfl<|Xm rfl<|OQ (EC gf21 rfl) (find14 A k l y ok _ (hl.toM H2 k0) hso) ?_
 rintro r w3 ⟨hyes, hno, Hd⟩
 have H3 := H2.callN Hd
 cases hfm : findMk l y
 obtain rfl := hno hfm
 refine Xm rfl<|Xe rfl rfl<|cOp e35<|Xe rfl rfl<|OA ty63 H3<|fun w4 gz H4 _=>OS ty63 H4 2 (vs := [.int .i64 (⟨0, 0⟩ : Mk).client, .int .i64 (⟨0, 0⟩ : Mk).seq, .bool false, .int .i64 0, .int .i64 0, .int .i64 0, .int .i64 0]) rfl rfl rfl rfl rfl (Nat.le_refl 7) rfl<|fun w5 H5=>Xa rfl<|Xr e35<|J7<|Rq<|Xm rfl<|Xf fl63_0 rfl<|OV (EL ty3 rfl (H5.cell (i := 0) rfl rfl))<|OT (ex_eql rfl rfl) (fun hp23 => ?_) (fun hp23 => ?_)
 refine Xa rfl<|Xr e35<|J3 rfl<|J2<|Xm rfl<|OV (EN ty63 rfl (vs := [.int .i64 v.client, .int .i64 v.seq, .bool false, .int .i64 0, .int .i64 0, .int .i64 0, .int .i64 0]) rfl (H5.cellsR (i := 0) rfl rfl))<|ops_buildSlice Tryz.underlying25 ty63 H5 (cs := [.int .i64 v.client, .int .i64 v.seq, .bool false, .int .i64 0, .int .i64 0, .int .i64 0, .int .i64 0]) rfl (by decide) rfl<|fun w6 gk H6 _=>ops_grow Tryz.underlying25 ty63 (by decide) H6 1 (qs := ms.map mkC) hG rfl rfl (rs := [[.int .i64 v.client, .int .i64 v.seq, .bool false, .int .i64 0, .int .i64 0, .int .i64 0, .int .i64 0]]) (m := 1) rfl rfl (H6.rd (i := 3) (o := some _) (xs := [.int .i64 v.client, .int .i64 v.seq, .bool false, .int .i64 0, .int .i64 0, .int .i64 0, .int .i64 0]) (sp := []) rfl rfl (by decide)) (Pl.one rfl) (fun p hp => by rw [List.mem_singleton.1 hp]; rfl) (by rw [List.length_map]; omega) (by rw [List.length_map]; omega) (by decide)<|fun w7 g2 cap2 sp2 H7 hG2=>?_
 have hm2 : ms.map mkC ++ [[.int .i64 v.client, .int .i64 v.seq, .bool false, .int .i64 0, .int .i64 0, .int .i64 0, .int .i64 0]] = (ms ++ [v]).map mkC := by rw [List.map_append]; rfl
 rw [hm2] at H7 hG2 ⊢
 refine cOp e35<|Xa rfl<|Xr e35<|run_nil (blk_normal ?_)
 refine run_nil (blk_normal ?_)
 refine J2<|Xm rfl<|OV (ex_add rfl rfl (IntWalk.i64_in _ (by omega)))<|Xa rfl<|Xr e35<|run_nil (rnd_normal ?_)
 exact ⟨(9 - (y + 1)).toNat, by omega, y + 1, g2, cap2, ms ++ [v], sp2, rfl, (fs (fn (fn (fs (fn (fs (fs (fn (fn (fn (fn (fn (fn (fn (fn (fn (fn (fn (fn (fn (fn (fn (fn (fn (fn (fn (fn (fn (fn (fn (fn (fn (fn (fn (fn f0))))))))))))))))))))))))))))))))))), by omega, by omega, by rw [hst, if_pos hp23]; rfl, hG2, H7.pick [0, 1] (by decide)⟩
 refine Xa rfl<|Xr e35<|J4 rfl<|Rq<|Xm rfl<|Xa rfl<|Xr e35<|J4 rfl<|J6<|run_nil (blk_normal ?_)
 refine run_nil (blk_normal ?_)
 refine J2<|Xm rfl<|OV (ex_add rfl rfl (IntWalk.i64_in _ (by omega)))<|Xa rfl<|Xr e35<|run_nil (rnd_normal ?_)
 exact ⟨(9 - (y + 1)).toNat, by omega, y + 1, g, cap, ms, sp, rfl, (fs (fn (fn (fs (fn (fs (fs (fn (fn (fn (fn (fn (fn (fn (fn (fn (fn (fn (fn (fn (fn (fn (fn (fn (fn (fn (fn (fn (fn (fn (fn (fn (fn (fn (fn f0))))))))))))))))))))))))))))))))))), by omega, by omega, by rw [hst, if_neg hp23, hfm]; exact (List.append_nil _).symm, hG, H5.pick [0, 1] (by decide)⟩
 rename_i o
 obtain rfl := hyes o hfm
 refine Xm rfl<|Xe rfl rfl<|cOp e35<|Xe rfl rfl<|OA ty63 H3<|fun w4 gz H4 _=>OS ty63 H4 2 (vs := [.int .i64 o.client, .int .i64 o.seq, .bool false, .int .i64 0, .int .i64 0, .int .i64 0, .int .i64 0]) rfl rfl rfl rfl rfl (Nat.le_refl 7) rfl<|fun w5 H5=>Xa rfl<|Xr e35<|J7<|Rq<|Xm rfl<|Xf fl63_0 rfl<|OV (EL ty3 rfl (H5.cell (i := 0) rfl rfl))<|OT (ex_eql rfl rfl) (fun hp23 => ?_) (fun hp23 => ?_)
 refine Xa rfl<|Xr e35<|J3 rfl<|J2<|Xm rfl<|OV (EN ty63 rfl (vs := [.int .i64 v.client, .int .i64 v.seq, .bool false, .int .i64 0, .int .i64 0, .int .i64 0, .int .i64 0]) rfl (H5.cellsR (i := 0) rfl rfl))<|ops_buildSlice Tryz.underlying25 ty63 H5 (cs := [.int .i64 v.client, .int .i64 v.seq, .bool false, .int .i64 0, .int .i64 0, .int .i64 0, .int .i64 0]) rfl (by decide) rfl<|fun w6 gk H6 _=>ops_grow Tryz.underlying25 ty63 (by decide) H6 1 (qs := ms.map mkC) hG rfl rfl (rs := [[.int .i64 v.client, .int .i64 v.seq, .bool false, .int .i64 0, .int .i64 0, .int .i64 0, .int .i64 0]]) (m := 1) rfl rfl (H6.rd (i := 3) (o := some _) (xs := [.int .i64 v.client, .int .i64 v.seq, .bool false, .int .i64 0, .int .i64 0, .int .i64 0, .int .i64 0]) (sp := []) rfl rfl (by decide)) (Pl.one rfl) (fun p hp => by rw [List.mem_singleton.1 hp]; rfl) (by rw [List.length_map]; omega) (by rw [List.length_map]; omega) (by decide)<|fun w7 g2 cap2 sp2 H7 hG2=>?_
 have hm2 : ms.map mkC ++ [[.int .i64 v.client, .int .i64 v.seq, .bool false, .int .i64 0, .int .i64 0, .int .i64 0, .int .i64 0]] = (ms ++ [v]).map mkC := by rw [List.map_append]; rfl
 rw [hm2] at H7 hG2 ⊢
 refine cOp e35<|Xa rfl<|Xr e35<|run_nil (blk_normal ?_)
 refine run_nil (blk_normal ?_)
 refine J2<|Xm rfl<|OV (ex_add rfl rfl (IntWalk.i64_in _ (by omega)))<|Xa rfl<|Xr e35<|run_nil (rnd_normal ?_)
 exact ⟨(9 - (y + 1)).toNat, by omega, y + 1, g2, cap2, ms ++ [v], sp2, rfl, (fs (fn (fn (fs (fn (fs (fs (fn (fn (fn (fn (fn (fn (fn (fn (fn (fn (fn (fn (fn (fn (fn (fn (fn (fn (fn (fn (fn (fn (fn (fn (fn (fn (fn (fn f0))))))))))))))))))))))))))))))))))), by omega, by omega, by rw [hst, if_pos hp23]; rfl, hG2, H7.pick [0, 1] (by decide)⟩
 refine Xa rfl<|Xr e35<|J4 rfl<|Rq<|Xm rfl<|Xa rfl<|Xr e35<|J3 rfl<|J2<|Xm rfl<|OV (EN ty63 rfl (vs := [.int .i64 o.client, .int .i64 o.seq, .bool false, .int .i64 0, .int .i64 0, .int .i64 0, .int .i64 0]) rfl (H5.cellsR (i := 2) rfl rfl))<|ops_buildSlice Tryz.underlying25 ty63 H5 (cs := [.int .i64 o.client, .int .i64 o.seq, .bool false, .int .i64 0, .int .i64 0, .int .i64 0, .int .i64 0]) rfl (by decide) rfl<|fun w6 gk H6 _=>ops_grow Tryz.underlying25 ty63 (by decide) H6 1 (qs := ms.map mkC) hG rfl rfl (rs := [[.int .i64 o.client, .int .i64 o.seq, .bool false, .int .i64 0, .int .i64 0, .int .i64 0, .int .i64 0]]) (m := 1) rfl rfl (H6.rd (i := 3) (o := some _) (xs := [.int .i64 o.client, .int .i64 o.seq, .bool false, .int .i64 0, .int .i64 0, .int .i64 0, .int .i64 0]) (sp := []) rfl rfl (by decide)) (Pl.one rfl) (fun p hp => by rw [List.mem_singleton.1 hp]; rfl) (by rw [List.length_map]; omega) (by rw [List.length_map]; omega) (by decide)<|fun w7 g2 cap2 sp2 H7 hG2=>?_
 have hm2 : ms.map mkC ++ [[.int .i64 o.client, .int .i64 o.seq, .bool false, .int .i64 0, .int .i64 0, .int .i64 0, .int .i64 0]] = (ms ++ [o]).map mkC := by rw [List.map_append]; rfl
 rw [hm2] at H7 hG2 ⊢
 refine cOp e35<|Xa rfl<|Xr e35<|run_nil (blk_normal ?_)
 refine run_nil (blk_normal ?_)
 refine J2<|Xm rfl<|OV (ex_add rfl rfl (IntWalk.i64_in _ (by omega)))<|Xa rfl<|Xr e35<|run_nil (rnd_normal ?_)
 exact ⟨(9 - (y + 1)).toNat, by omega, y + 1, g2, cap2, ms ++ [o], sp2, rfl, (fs (fn (fn (fs (fn (fs (fs (fn (fn (fn (fn (fn (fn (fn (fn (fn (fn (fn (fn (fn (fn (fn (fn (fn (fn (fn (fn (fn (fn (fn (fn (fn (fn (fn (fn f0))))))))))))))))))))))))))))))))))), by omega, by omega, by rw [hst, if_neg hp23, hfm]; rfl, hG2, H7.pick [0, 1] (by decide)⟩
 obtain rfl : y = 9 := by omega
 rw [all_put hput] at hms
 subst hms
 refine Xr e35<|J4 rfl<|J8<|rnd_exit<|blk_exit<|Rq<|Xm rfl<|Xa rfl<|Xr e35<|J5<|FN1 rfl rfl ?_
 rw [List.length_map]
 refine ⟨hd g, cap, rfl, Sl.row H2 (i := 1) rfl (mk_pl _) (by decide) (mk_rows _) (fun b hb => ?_), H2.noRows⟩
 rcases H2.place (i := 1) (g := b) (by rw [hb]; rfl) with h | h
 cases h
 exact h
end Go.Proofs.YtbninklfoogmdaaGreat
