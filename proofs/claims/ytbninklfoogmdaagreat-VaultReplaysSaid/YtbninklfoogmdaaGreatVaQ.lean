/- Walks of layer 2, printed by wip/gen/codec.py. -/
import Derived.Test.YtbninklfoogmdaaGreatNf
import Derived.Test.YtbninklfoogmdaaGreatVw
import Derived.Test.YtbninklfoogmdaaGreatVaA
namespace Go.Proofs.YtbninklfoogmdaaGreat
open Go Go.RowKit
set_option linter.unusedVariables false
attribute [local irreducible] Still Ops Does Cd
set_option maxRecDepth 100000 in
set_option maxHeartbeats 4000000 in
theorem last_r (s : Sv) (A1 : Option Addr) (k1 : Nat) (A2 : Option Addr) (k2 : Nat) (A3 : Option Addr) (k3 : Nat) (w0 : World) (hx : -1000000000000000000 ≤ s.index ∧ s.index ≤ 1000000000000000000) (hm : s.entries.length ≤ 1000000000000000000) : Does Tryz.prog 43 #[.agg [.int .i64 s.p.r, .int .i64 s.p.n, .slice A1 s.votes.length k1, .int .i64 s.index, .slice A2 s.image.length k2, .slice A3 s.entries.length k3].toArray] w0 (fun r w' => r = .int .i64 (s.index + s.entries.length) ∧ Hp w0 w' [] []) := by
 refine does_of Tryz.func43 Tryz.ntmps43 rfl<|cR e9 ?_
 have H := Hp.refl w0
 refine Rq<|ops_box rfl rfl H<|fun w1 g1 H1 hg1=>Xa rfl<|Xr e9<|Rq<|Xf fl57_2 rfl<|OV (EL ty3 rfl (H1.cell (i := 0) rfl rfl))<|Xf fl57_4 rfl<|OV (EL ty55 rfl (H1.cell (i := 0) rfl rfl))<|cOp e9<|OV (ES Tryz.underlying55 rfl)<|OV (ex_add rfl rfl (IntWalk.i64_in _ (by omega)))<|Xa rfl<|Xr e9<|J5<|FN1 rfl rfl<|⟨rfl, H1.noRows⟩
set_option maxRecDepth 100000 in
set_option maxHeartbeats 4000000 in
theorem raise_r (gs : Nat) (p b : Bal) (c2 c3 c4 c5 : Value) (w0 : World) (hrow : w0.heap[gs]? = some (.cells [.int .i64 p.r, .int .i64 p.n, c2, c3, c4, c5].toArray 57 (0, 0))) : Does Tryz.prog 42 #[.pointer (some ⟨gs, 0, none⟩), .agg [.int .i64 b.r, .int .i64 b.n].toArray] w0 (fun _ w' => Hp w0 w' [gs] [((some gs, 57, [.int .i64 (rz p b).r, .int .i64 (rz p b).n, c2, c3, c4, c5]) : Ent)]) := by
 refine does_of Tryz.func42 Tryz.ntmps42 rfl<|cR e14 ?_
 have H := Hp.old hrow
 refine Rq<|ops_box rfl rfl H<|fun w1 g1 H1 hg1=>Xr e14<|J1<|run_mixZ 5 [(true, 0), (true, 1), (true, 2), (true, 3), (true, 4), (false, 5)] H1 [0, 1] mixed (by decide) (by kernel_rfl) ?_
 rintro w2 hw2
 have H2 := Hp.drew H1; rw [← hw2] at H2
 refine Zm rfl rfl<|Zc rfl rfl<|Zf rfl fl57_0 rfl<|MP rfl<|MV (fun wz hz => EN ty36 rfl (vs := [.int .i64 p.r, .int .i64 p.n]) rfl (hz.cellsR (i := 0) rfl rfl))<|cZ e14<|MP rfl<|MV (fun wz hz => EN ty36 rfl (vs := [.int .i64 b.r, .int .i64 b.n]) rfl (hz.cellsR (i := 1) rfl rfl))<|MO rfl<|OX (EC gf68 rfl) (less9 _ _ _) (fun hp9 w3 Hd => ?_) (fun hp9 w3 Hd => ?_)
 have H3 := H2.callN Hd
 refine OE ?_
 refine ⟨fun hne => absurd rfl hne, ?_⟩
 refine ME<|cR e14<|J3 rfl<|J2<|Xm rfl<|OV (EN ty36 rfl (vs := [.int .i64 b.r, .int .i64 b.n]) rfl (H3.cellsR (i := 1) rfl rfl))<|Xc rfl<|Xf fl57_0 rfl<|cOp e14<|OS ty36 H3 0 rfl rfl rfl rfl rfl (by first | decide | (simp; done) | simp [putAt]) rfl<|fun w4 H4=>Xr e14<|run_nil<|fin_end0 rfl ?_
 unfold rz
 rw [if_pos hp9]
 exact H4.pick [0] (by decide)
 have H3 := H2.callN Hd
 refine OE ?_
 refine ⟨fun hne => absurd rfl hne, ?_⟩
 refine ME<|cR e14<|J4 rfl<|J6<|run_nil<|fin_end0 rfl ?_
 unfold rz
 rw [if_neg hp9]
 exact H3.pick [0] (by decide)
set_option maxRecDepth 100000 in
set_option maxHeartbeats 4000000 in
theorem behind_r (A : Option Addr) (k : Nat) (ps : List (List Value)) (l : List Vt) (n : Int) (ok : Nat → Prop) (w0 : World) (hp : Pl 4 ps) (hr : Rd w0 A l.length 4 ps.flatten) (h2 : All2 (VtR w0 ok) ps l) (hn : l.length ≤ 1000000000000) : Does Tryz.prog 45 #[.slice A l.length k, .int .i64 n] w0 (fun r w' => ∃ g cap sp, r = .slice (hd g) (ps.filter fun p => !vtLe n p).length cap ∧ Gw 4 g cap (ps.filter fun p => !vtLe n p) sp ∧ Hp w0 w' [] [((g, 39, (ps.filter fun p => !vtLe n p).flatten ++ sp) : Ent)]) := by
 refine does_of Tryz.func45 Tryz.ntmps45 rfl<|cR e28 ?_
 have H := Hp.refl w0
 have hlen := h2.len
 refine Rq<|Xa rfl<|Xr e28<|Rq<|Xa rfl<|Xr e28<|J1<|Rq<|Xa rfl<|Xr e28<|J7<|run_loop (fun nQ lQ w => ∃ (i : Nat) (y : Int) (g : Option Nat) (cap : Nat) (qs : List (List Value)) (sp : List Value), l.length - i = nQ ∧ Fits [some (.slice A l.length k), some (.int .i64 n), none, none, none, some (.slice (hd g) qs.length cap), some (.int .i64 y), none, none, none, none, none, none, none, none, none, none, none, none, none, none, none, none, none, none, none, none, none] lQ ∧ y = (i : Int) ∧ i ≤ l.length ∧ qs = (ps.take i).filter (fun p => !vtLe n p) ∧ Gw 4 g cap qs sp ∧ Hp w0 w [] [((g, 39, qs.flatten ++ sp) : Ent)]) (l.length) ?_ ?_
 exact ⟨0, _, none, 0, [], [], rfl, (fs (fs (fn (fn (fn (fs (fs (fn (fn (fn (fn (fn (fn (fn (fn (fn (fn (fn (fn (fn (fn (fn (fn (fn (fn (fn (fn (fn f0)))))))))))))))))))))))))))), rfl, Nat.zero_le _, rfl, Gw.nil 4, H.nil 39⟩
 rintro nQ lQ w1 ⟨i, y, g, cap, qs, sp, rfl, hfit, rfl, hi, hqs, hG, H1⟩
 obtain ⟨j, rfl⟩ := hfit.open
 refine cR e28 ?_
 clear hfit
 refine J1<|Rq<|Xm rfl<|Xm rfl<|OV (ES Tryz.underlying54 rfl)<|OT (ex_lss rfl rfl) (fun hp10 => ?_) (fun hp10 => ?_)
 have hil : i < l.length := by omega
 obtain ⟨x, hx⟩ := get_of hil
 obtain ⟨p1, hp1, hR⟩ := h2.get hx
 obtain ⟨Ax, kx, rfl, hbx⟩ := hR
 obtain ⟨a1, ha1⟩ := hr.some_ (by omega)
 subst ha1
 have hql : qs.length ≤ i := by rw [hqs]; exact tf_len
 refine Xr e28<|J3 rfl<|J6<|J1<|J7<|Rq<|Xm rfl<|Xm rfl<|OV (EI Tryz.underlying54 ty39 rfl rfl rfl hil rfl)<|OV (ex_fieldAddrA fl39_0 rfl)<|cOp e28<|OV (EL ty3 rfl (((hr.to0 H1).elem hp hp1) 0 _ rfl))<|Xm rfl<|OT (ex_gtr rfl rfl) (fun hp19 => ?_) (fun hp19 => ?_)
 have hf1 : (!vtLe n [.int .i64 x.slot, .int .i64 x.b.r, .int .i64 x.b.n, .slice Ax x.val.length kx]) = true := by show (!decide (x.slot ≤ n)) = true; rw [decide_eq_false (by omega)]; rfl
 refine Xr e28<|J3 rfl<|J2<|Xm rfl<|Xm rfl<|Xm rfl<|OV (EI Tryz.underlying54 ty39 rfl rfl rfl hil rfl)<|cOp e28<|OV (EN ty39 rfl (vs := [.int .i64 x.slot, .int .i64 x.b.r, .int .i64 x.b.n, .slice Ax x.val.length kx]) rfl ((hr.to0 H1).elem hp hp1))<|ops_buildSlice Tryz.underlying54 ty39 H1 (cs := [.int .i64 x.slot, .int .i64 x.b.r, .int .i64 x.b.n, .slice Ax x.val.length kx]) rfl (by decide) rfl<|fun w2 gk H2 _=>ops_grow Tryz.underlying54 ty39 (by decide) H2 0 hG rfl rfl (rs := [[.int .i64 x.slot, .int .i64 x.b.r, .int .i64 x.b.n, .slice Ax x.val.length kx]]) (m := 1) rfl rfl (H2.rd (i := 1) (o := some _) (xs := [.int .i64 x.slot, .int .i64 x.b.r, .int .i64 x.b.n, .slice Ax x.val.length kx]) (sp := []) rfl rfl (by decide)) (Pl.one rfl) (fun p hp => by rw [List.mem_singleton.1 hp]; rfl) (by omega) (by omega) (by decide)<|fun w3 g2 cap2 sp2 H3 hG2=>Xa rfl<|Xr e28<|run_nil (blk_normal ?_)
 refine J2<|Xm rfl<|OV (ex_add rfl rfl (IntWalk.i64_in _ (by omega)))<|Xa rfl<|Xr e28<|run_nil (rnd_normal ?_)
 exact ⟨l.length - (i + 1), by omega, i + 1, _, g2, cap2, _, sp2, rfl, (fs (fs (fn (fn (fn (fs (fs (fn (fn (fn (fn (fn (fn (fn (fn (fn (fn (fn (fn (fn (fn (fn (fn (fn (fn (fn (fn (fn f0)))))))))))))))))))))))))))), by omega, by omega, by rw [hqs, tf_t hp1 hf1], hG2, H3.pick [0] (by decide)⟩
 have hf1 : (!vtLe n [.int .i64 x.slot, .int .i64 x.b.r, .int .i64 x.b.n, .slice Ax x.val.length kx]) = false := by show (!decide (x.slot ≤ n)) = false; rw [decide_eq_true (by omega)]; rfl
 refine Xr e28<|J4 rfl<|J6<|run_nil (blk_normal ?_)
 refine J2<|Xm rfl<|OV (ex_add rfl rfl (IntWalk.i64_in _ (by omega)))<|Xa rfl<|Xr e28<|run_nil (rnd_normal ?_)
 exact ⟨l.length - (i + 1), by omega, i + 1, _, g, cap, qs, sp, rfl, (fs (fs (fn (fn (fn (fs (fs (fn (fn (fn (fn (fn (fn (fn (fn (fn (fn (fn (fn (fn (fn (fn (fn (fn (fn (fn (fn (fn f0)))))))))))))))))))))))))))), by omega, by omega, by rw [hqs, tf_f hp1 hf1], hG, H1.pick [0] (by decide)⟩
 obtain rfl : i = l.length := by omega
 rw [← hlen, List.take_length] at hqs
 subst hqs
 refine Xr e28<|J4 rfl<|J8<|rnd_exit<|blk_exit<|Rq<|Xm rfl<|Xa rfl<|Xr e28<|J5<|FN1 rfl rfl<|⟨g, cap, sp, rfl, hG, H1.pick [0] (by decide)⟩
set_option maxRecDepth 100000 in
set_option maxHeartbeats 16000000 in
theorem vote_r (A : Option Addr) (k : Nat) (ps : List (List Value)) (l : List Vt) (v : Vt) (C : Option Addr) (kc : Nat) (ok : Nat → Prop) (w0 : World) (hp : Pl 4 ps) (hr : Rd w0 A l.length 4 ps.flatten) (h2 : All2 (VtR w0 ok) ps l) (hn : l.length ≤ 1000000000000) : Does Tryz.prog 44 #[.slice A l.length k, .agg [.int .i64 v.slot, .int .i64 v.b.r, .int .i64 v.b.n, .slice C v.val.length kc].toArray] w0 (fun r w' => ∃ g cap sp, r = .slice (hd g) (ps.filter (vtLt v.slot) ++ ([[.int .i64 v.slot, .int .i64 v.b.r, .int .i64 v.b.n, .slice C v.val.length kc]] : List (List Value)) ++ ps.filter fun p => !vtLe v.slot p).length cap ∧ Gw 4 g cap (ps.filter (vtLt v.slot) ++ ([[.int .i64 v.slot, .int .i64 v.b.r, .int .i64 v.b.n, .slice C v.val.length kc]] : List (List Value)) ++ ps.filter fun p => !vtLe v.slot p) sp ∧ Hp w0 w' [] [((g, 39, (ps.filter (vtLt v.slot) ++ ([[.int .i64 v.slot, .int .i64 v.b.r, .int .i64 v.b.n, .slice C v.val.length kc]] : List (List Value)) ++ ps.filter fun p => !vtLe v.slot p).flatten ++ sp) : Ent)]) := by
 refine does_of Tryz.func44 Tryz.ntmps44 rfl<|cR e37 ?_
 have H := Hp.refl w0
 have hlen := h2.len
 have hon := h2.ones fun _ _ h => h.ones
 refine Rq<|ops_box rfl rfl H<|fun w1 gv H1 _=>Xa rfl<|Xr e37<|Rq<|Xa rfl<|Xr e37<|J1<|Rq<|Xa rfl<|Xr e37<|J7<|run_loop (fun nQ lQ w => ∃ (i : Nat) (y : Int) (g : Option Nat) (cap : Nat) (qs : List (List Value)) (sp : List Value), l.length - i = nQ ∧ Fits [some (.slice A l.length k), none, none, some (.pointer (some ⟨gv, 0, none⟩)), none, some (.slice (hd g) qs.length cap), some (.int .i64 y), none, none, none, none, none, none, none, none, none, none, none, none, none, none, none, none, none, none, none, none, none, none, none, none, none, none, none, none, none, none] lQ ∧ y = (i : Int) ∧ i ≤ l.length ∧ qs = (ps.take i).filter (vtLt v.slot) ∧ Gw 4 g cap qs sp ∧ Hp w0 w [] [((some gv, 39, [.int .i64 v.slot, .int .i64 v.b.r, .int .i64 v.b.n, .slice C v.val.length kc]) : Ent), ((g, 39, qs.flatten ++ sp) : Ent)]) (l.length) ?_ ?_
 exact ⟨0, _, none, 0, [], [], rfl, (fs (fn (fn (fs (fn (fs (fs (fn (fn (fn (fn (fn (fn (fn (fn (fn (fn (fn (fn (fn (fn (fn (fn (fn (fn (fn (fn (fn (fn (fn (fn (fn (fn (fn (fn (fn (fn f0))))))))))))))))))))))))))))))))))))), rfl, Nat.zero_le _, rfl, Gw.nil 4, H1.nil 39⟩
 rintro nQ lQ w2 ⟨i, y, g, cap, qs, sp, rfl, hfit, rfl, hi, hqs, hG, H2⟩
 obtain ⟨j, rfl⟩ := hfit.open
 refine cR e37 ?_
 clear hfit
 refine J1<|Rq<|Xm rfl<|Xm rfl<|OV (ES Tryz.underlying54 rfl)<|OT (ex_lss rfl rfl) (fun hp10 => ?_) (fun hp10 => ?_)
 have hil : i < l.length := by omega
 obtain ⟨x, hx⟩ := get_of hil
 obtain ⟨p1, hp1, hR⟩ := h2.get hx
 obtain ⟨Ax, kx, rfl, hbx⟩ := hR
 obtain ⟨a1, ha1⟩ := hr.some_ (by omega)
 subst ha1
 have hql : qs.length ≤ i := by rw [hqs]; exact tf_len
 refine Xr e37<|J3 rfl<|J6<|J1<|J7<|J1<|run_still mixed (by kernel_rfl) ?_
 rintro w3 hw3
 have H3 := Hp.drew H2; rw [← hw3] at H3
 refine SV (ex_move rfl)<|SV (ex_move rfl)<|SV (EI Tryz.underlying54 ty39 rfl rfl rfl hil rfl)<|SV (ex_fieldAddrA fl39_0 rfl)<|cStl e37<|SV (EL ty3 rfl (((hr.to0 H3).elem hp hp1) 0 _ rfl))<|SV (EF fl39_0 rfl)<|SV (EL ty3 rfl (H3.cell (i := 0) rfl rfl))<|still_test (ex_lss rfl rfl) (fun hp20 => ?_) (fun hp20 => ?_)
 have hf1 : vtLt v.slot [.int .i64 x.slot, .int .i64 x.b.r, .int .i64 x.b.n, .slice Ax x.val.length kx] = true := decide_eq_true hp20
 refine still_nil<|cR e37<|J3 rfl<|J2<|Xm rfl<|Xm rfl<|Xm rfl<|OV (EI Tryz.underlying54 ty39 rfl rfl rfl hil rfl)<|cOp e37<|OV (EN ty39 rfl (vs := [.int .i64 x.slot, .int .i64 x.b.r, .int .i64 x.b.n, .slice Ax x.val.length kx]) rfl ((hr.to0 H3).elem hp hp1))<|ops_buildSlice Tryz.underlying54 ty39 H3 (cs := [.int .i64 x.slot, .int .i64 x.b.r, .int .i64 x.b.n, .slice Ax x.val.length kx]) rfl (by decide) rfl<|fun w4 gk H4 _=>ops_grow Tryz.underlying54 ty39 (by decide) H4 1 hG rfl rfl (rs := [[.int .i64 x.slot, .int .i64 x.b.r, .int .i64 x.b.n, .slice Ax x.val.length kx]]) (m := 1) rfl rfl (H4.rd (i := 2) (o := some _) (xs := [.int .i64 x.slot, .int .i64 x.b.r, .int .i64 x.b.n, .slice Ax x.val.length kx]) (sp := []) rfl rfl (by decide)) (Pl.one rfl) (fun p hp => by rw [List.mem_singleton.1 hp]; rfl) (by omega) (by omega) (by decide)<|fun w5 g2 cap2 sp2 H5 hG2=>Xa rfl<|Xr e37<|run_nil (blk_normal ?_)
 refine J2<|Xm rfl<|OV (ex_add rfl rfl (IntWalk.i64_in _ (by omega)))<|Xa rfl<|Xr e37<|run_nil (rnd_normal ?_)
 exact ⟨l.length - (i + 1), by omega, i + 1, _, g2, cap2, _, sp2, rfl, (fs (fn (fn (fs (fn (fs (fs (fn (fn (fn (fn (fn (fn (fn (fn (fn (fn (fn (fn (fn (fn (fn (fn (fn (fn (fn (fn (fn (fn (fn (fn (fn (fn (fn (fn (fn (fn f0))))))))))))))))))))))))))))))))))))), by omega, by omega, by rw [hqs, tf_t hp1 hf1], hG2, H5.pick [0, 1] (by decide)⟩
 have hf1 : vtLt v.slot [.int .i64 x.slot, .int .i64 x.b.r, .int .i64 x.b.n, .slice Ax x.val.length kx] = false := decide_eq_false hp20
 refine still_nil<|cR e37<|J4 rfl<|J6<|run_nil (blk_normal ?_)
 refine J2<|Xm rfl<|OV (ex_add rfl rfl (IntWalk.i64_in _ (by omega)))<|Xa rfl<|Xr e37<|run_nil (rnd_normal ?_)
 exact ⟨l.length - (i + 1), by omega, i + 1, _, g, cap, qs, sp, rfl, (fs (fn (fn (fs (fn (fs (fs (fn (fn (fn (fn (fn (fn (fn (fn (fn (fn (fn (fn (fn (fn (fn (fn (fn (fn (fn (fn (fn (fn (fn (fn (fn (fn (fn (fn (fn (fn f0))))))))))))))))))))))))))))))))))))), by omega, by omega, by rw [hqs, tf_f hp1 hf1], hG, H3.pick [0, 1] (by decide)⟩
 obtain rfl : i = l.length := by omega
 rw [← hlen, List.take_length] at hqs
 have hql : qs.length ≤ l.length := by rw [hqs, ← hlen]; exact List.length_filter_le _ _
 have hbl : (ps.filter fun p => !vtLe v.slot p).length ≤ l.length := by rw [← hlen]; exact List.length_filter_le _ _
 refine Xr e37<|J4 rfl<|J8<|rnd_exit<|blk_exit<|J1<|run_mixT 9 (.p 0 (.p 1 (.p 4 (.p 5 (.p 6 (.o 2 (.o 3 (.o 7 (.o 8 (.o 9 .nil)))))))))) H2 [0] mixed (by decide) (by kernel_rfl) ?_
 rintro w3 hw3
 have H3 := Hp.drew H2; rw [← hw3] at H3
 refine Tm rfl rfl<|TP rfl<|MV (fun wz hz => EN ty39 rfl (vs := [.int .i64 v.slot, .int .i64 v.b.r, .int .i64 v.b.n, .slice C v.val.length kc]) rfl (hz.cellsR (i := 0) rfl rfl))<|Tm rfl rfl<|Tf rfl fl39_0 rfl<|cT e37<|TP rfl<|MV (fun wz hz => EL ty3 rfl (hz.cell (i := 0) rfl rfl))<|TQ rfl<|ops_buildSlice Tryz.underlying54 ty39 H3 (cs := [.int .i64 v.slot, .int .i64 v.b.r, .int .i64 v.b.n, .slice C v.val.length kc]) rfl (by decide) rfl<|fun w4 gk H4 _=>OE<|⟨fun hne => H4.pick [0] (by decide), ?_⟩
 refine cT e37<|TQ rfl<|ops_grow Tryz.underlying54 ty39 (by decide) H4 1 hG rfl rfl (rs := [[.int .i64 v.slot, .int .i64 v.b.r, .int .i64 v.b.n, .slice C v.val.length kc]]) (m := 1) rfl rfl (H4.rd (i := 2) (o := some _) (xs := [.int .i64 v.slot, .int .i64 v.b.r, .int .i64 v.b.n, .slice C v.val.length kc]) (sp := []) rfl rfl (by decide)) (Pl.one rfl) (fun p hp => by rw [List.mem_singleton.1 hp]; rfl) (by omega) (by omega) (by decide)<|fun w5 g4 cap4 sp4 H5 hG4=>OE<|⟨fun hne => H5.pick [0] (by decide), ?_⟩
 refine cT e37<|TQ rfl<|OQ (EC gf45 rfl) (behind_r A k ps l v.slot ok _ hp (hr.to0 H5) (h2.imp fun p x h => h.to H5 k0) hn) ?_
 rintro _ w6 ⟨g3, cap3, sp3, rfl, hG3, Hc⟩
 have H6 := H5.call0 Hc
 refine OE ?_
 refine ⟨fun hne => H6.pick [0] (by decide), ?_⟩
 refine cT e37<|TQ rfl<|ops_grow Tryz.underlying54 ty39 (by decide) H6 1 hG4 rfl rfl (rs := (ps.filter fun p => !vtLe v.slot p))  rfl rfl (H6.rd (i := 3) (xs := (ps.filter fun p => !vtLe v.slot p).flatten) (sp := sp3) rfl hG3.2.2.2.len (by decide)) hG3.2.2.2 (fun p hp => hon p (List.mem_filter.1 hp).1) (by simp only [List.length_append, List.length_cons, List.length_nil]; omega) (by simp only [List.length_append, List.length_cons, List.length_nil]; omega) (by decide)<|fun w7 g5 cap5 sp5 H7 hG5=>OE<|⟨fun hne => H7.pick [0] (by decide), ?_⟩
 refine cT e37<|TQ rfl<|Xa rfl<|OE<|⟨fun hne => absurd rfl hne, ?_⟩
 refine cT e37<|mixt_nil<|cR e37<|J5<|FN1 rfl rfl ?_
 subst hqs
 exact ⟨g5, cap5, sp5, rfl, hG5, H7.pick [1] (by decide)⟩
end Go.Proofs.YtbninklfoogmdaaGreat
