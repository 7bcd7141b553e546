/- Walks of layer 2, printed by wip/gen/codec.py. -/
import Derived.Test.YtbninklfoogmdaaGreatNf
import Derived.Test.YtbninklfoogmdaaGreatOwn
import Derived.Test.YtbninklfoogmdaaGreatVw
import Derived.Test.YtbninklfoogmdaaGreatVaA
namespace Go.Proofs.YtbninklfoogmdaaGreat
open Go Go.RowKit
set_option linter.unusedVariables false
attribute [local irreducible] Still Ops Does Cd
set_option maxRecDepth 100000 in
set_option maxHeartbeats 32000000 in
theorem copy_r (A : Option Addr) (k : Nat) (l : List Nt) (okl : Nat → Prop) (w0 : World) (hl : Sl (NtR w0 okl) 16 w0 okl A l) (hn : l.length ≤ 840000000000) : Does Tryz.prog 11 #[.slice A l.length k] w0 (fun r w' => ∃ g cap qs sp, r = .slice (hd g) l.length cap ∧ Gw 16 g cap qs sp ∧ All2 (NtW w' w0.heap.size g) qs l ∧ Hp w0 w' [] [((g, 45, qs.flatten ++ sp) : Ent)]) := by
 refine does_of Tryz.func11 Tryz.ntmps11 rfl<|cR e56 ?_
 have H := Hp.refl w0
 obtain ⟨ps, hp, hr, ha, h2⟩ := id hl
 have hlen := h2.len
 refine Rq<|Xa rfl<|Xr e56<|Rq<|Xa rfl<|Xr e56<|J1<|Rq<|Xa rfl<|Xr e56<|J7<|run_loop (fun nQ lQ w => ∃ (i : Nat) (y : Int) (g : Option Nat) (cap : Nat) (qs : List (List Value)) (sp : List Value), l.length - i = nQ ∧ Fits [some (.slice A l.length k), none, none, some (.slice (hd g) qs.length cap), some (.int .i64 y), none, none, none, none, none, none, none, none, none, none, none, none, none, none, none, none, none, none, none, none, none, none, none, none, none, none, none, none, none, none, none, none, none, none, none, none, none, none, none, none, none, none, none, none, none, none, none, none, none, none, none] lQ ∧ y = (i : Int) ∧ i ≤ l.length ∧ Gw 16 g cap qs sp ∧ All2 (NtW w w0.heap.size g) qs (l.take i) ∧ Hp w0 w [] [((g, 45, qs.flatten ++ sp) : Ent)]) (l.length) ?_ ?_
 exact ⟨0, _, none, 0, [], [], rfl, (fs (fn (fn (fs (fs (fn (fn (fn (fn (fn (fn (fn (fn (fn (fn (fn (fn (fn (fn (fn (fn (fn (fn (fn (fn (fn (fn (fn (fn (fn (fn (fn (fn (fn (fn (fn (fn (fn (fn (fn (fn (fn (fn (fn (fn (fn (fn (fn (fn (fn (fn (fn (fn (fn (fn (fn f0)))))))))))))))))))))))))))))))))))))))))))))))))))))))), rfl, Nat.zero_le _, Gw.nil 16, trivial, H.nil 45⟩
 rintro nQ lQ w1 ⟨i, y, g, cap, qs, sp, rfl, hfit, rfl, hi, hG, hA, H1⟩
 obtain ⟨j, rfl⟩ := hfit.open
 refine cR e56 ?_
 clear hfit
 have HB := H1
 replace H1 := HB.here
 refine J1<|Rq<|Xm rfl<|Xm rfl<|OV (ES Tryz.underlying22 rfl)<|OT (ex_lss rfl rfl) (fun hp11 => ?_) (fun hp11 => ?_)
 have hil : i < l.length := by omega
 obtain ⟨nt, hx⟩ := get_of hil
 obtain ⟨p1, hp1, hR⟩ := h2.get hx
 obtain ⟨B1, j1, B2, j2, rfl, hbv, hbe⟩ := hR
 obtain ⟨a1, ha1⟩ := hr.some_ (by omega)
 subst ha1
 have hql : qs.length = i := by rw [hA.len, List.length_take]; omega
 refine Xr e56<|J3 rfl<|J6<|J1<|J7<|Rq<|Xm rfl<|Xm rfl<|OV (EI Tryz.underlying22 ty45 rfl rfl rfl hil rfl)<|OV (EN ty45 rfl (vs := [.int .i64 nt.kind, .int .i64 nt.group, .int .i64 nt.b.r, .int .i64 nt.b.n, .int .i64 nt.vote.slot, .int .i64 nt.vote.b.r, .int .i64 nt.vote.b.n, .slice B1 nt.vote.val.length j1, .int .i64 nt.entry.slot, .slice B2 nt.entry.val.length j2, .int .i64 nt.right.g, strV nt.right.key, .int .i64 nt.right.lease, .int .i64 nt.right.net, .int .i64 nt.client, .int .i64 nt.seq]) rfl ((hr.to0 (HB.all H1)).elem hp hp1))<|cOp e56<|OA ty45 H1<|fun w2 gn H2 _=>OS ty45 H2 1 (vs := [.int .i64 nt.kind, .int .i64 nt.group, .int .i64 nt.b.r, .int .i64 nt.b.n, .int .i64 nt.vote.slot, .int .i64 nt.vote.b.r, .int .i64 nt.vote.b.n, .slice B1 nt.vote.val.length j1, .int .i64 nt.entry.slot, .slice B2 nt.entry.val.length j2, .int .i64 nt.right.g, strV nt.right.key, .int .i64 nt.right.lease, .int .i64 nt.right.net, .int .i64 nt.client, .int .i64 nt.seq]) rfl rfl rfl rfl rfl (Nat.le_refl 16) rfl<|fun w3 H3=>Xr e56<|J1<|run_mixT 12 (.p 0 (.p 1 (.p 2 (.p 3 (.p 4 (.p 5 (.p 6 (.p 7 (.p 8 (.two 9 (.p 10 (.o 11 (.o 12 .nil))) 11 (.o 9 (.p 10 (.o 12 .nil))))))))))))) H3 [0, 1] mixed (by decide) (by kernel_rfl) ?_
 rintro w4 hw4
 have H4 := Hp.drew H3; rw [← hw4] at H4
 refine Tf rfl fl45_3 rfl<|Tf rfl fl39_0 rfl<|TP rfl<|MV (fun wz hz => EL ty3 rfl (hz.cell (i := 1) rfl rfl))<|Tf rfl fl45_3 rfl<|cT e56<|Tf rfl fl39_1 rfl<|TP rfl<|MV (fun wz hz => EN ty36 rfl (vs := [.int .i64 nt.vote.b.r, .int .i64 nt.vote.b.n]) rfl (hz.cellsR (i := 1) rfl rfl))<|Tf rfl fl45_3 rfl<|Tf rfl fl39_2 rfl<|cT e56<|TP rfl<|MV (fun wz hz => EL ty37 rfl (hz.cell (i := 1) rfl rfl))<|mixt_two ?_ ?_
 refine TQ rfl<|ops_append Tryz.underlying37 ty5 (by decide) (H4.nil 5) 2 (g := none) (n := 0) (cap := 0) (xs := []) (sp := []) rfl rfl rfl (by decide) (by decide) (fun _ => rfl) rfl (hbv.1.to0 (HB.all H4)) (u8s_one' _) (by have := hbv.2.2; omega) (by have := hbv.2.2; omega) (by decide)<|fun w5 gv cv sv H5 _ _ _=>?_
 rw [Nat.zero_add nt.vote.val.length]
 refine OE ?_
 refine ⟨fun hne => H5.pick [0, 1] (by decide), ?_⟩
 refine cT e56<|TP rfl<|MV (fun wz hz => EB ty39 pl39 rfl rfl)<|TQ rfl<|OA ty39 H5<|fun w6 g6 H6 _=>?_
 replace H6 := H6.pick [0, 1, 3, 2] (by decide)
 refine OE ?_
 refine ⟨fun hne => H6.pick [0, 1] (by decide), ?_⟩
 refine cT e56<|TQ rfl<|OS ty39 H6 2 (vs := [.int .i64 nt.vote.slot, .int .i64 nt.vote.b.r, .int .i64 nt.vote.b.n, .slice (hd gv) nt.vote.val.length cv]) rfl rfl rfl rfl rfl (Nat.le_refl 4) rfl<|fun w7 H7=>OE<|⟨fun hne => absurd rfl hne, ?_⟩
 refine cT e56<|mixt_nil<|cR e56<|J1<|run_mixT 9 (.p 0 (.p 1 (.p 2 (.p 3 (.p 4 (.p 5 (.two 6 (.p 7 (.o 8 (.o 9 .nil))) 8 (.o 6 (.p 7 (.o 9 .nil)))))))))) H7 [0, 1, 2, 3] mixed (by decide) (by kernel_rfl) ?_
 rintro w8 hw8
 have H8 := Hp.drew H7; rw [← hw8] at H8
 refine Tf rfl fl45_4 rfl<|Tf rfl fl41_0 rfl<|TP rfl<|MV (fun wz hz => EL ty3 rfl (hz.cell (i := 1) rfl rfl))<|Tf rfl fl45_4 rfl<|cT e56<|Tf rfl fl41_1 rfl<|TP rfl<|MV (fun wz hz => EL ty37 rfl (hz.cell (i := 1) rfl rfl))<|mixt_two ?_ ?_
 refine TQ rfl<|ops_append Tryz.underlying37 ty5 (by decide) (H8.nil 5) 4 (g := none) (n := 0) (cap := 0) (xs := []) (sp := []) rfl rfl rfl (by decide) (by decide) (fun _ => rfl) rfl (hbe.1.to0 (HB.all H8)) (u8s_one' _) (by have := hbe.2.2; omega) (by have := hbe.2.2; omega) (by decide)<|fun w9 gq cq sq H9 _ _ _=>?_
 rw [Nat.zero_add nt.entry.val.length]
 refine OE ?_
 refine ⟨fun hne => H9.pick [0, 1, 2, 3] (by decide), ?_⟩
 refine cT e56<|TP rfl<|MV (fun wz hz => EB ty41 pl41 rfl rfl)<|TQ rfl<|OA ty41 H9<|fun w10 g7 H10 _=>?_
 replace H10 := H10.pick [0, 1, 2, 3, 5, 4] (by decide)
 refine OE ?_
 refine ⟨fun hne => H10.pick [0, 1, 2, 3] (by decide), ?_⟩
 refine cT e56<|TQ rfl<|OS ty41 H10 4 (vs := [.int .i64 nt.entry.slot, .slice (hd gq) nt.entry.val.length cq]) rfl rfl rfl rfl rfl (Nat.le_refl 2) rfl<|fun w11 H11=>OE<|⟨fun hne => absurd rfl hne, ?_⟩
 refine cT e56<|mixt_nil<|cR e56<|J2<|Xm rfl<|Xf fl45_0 rfl<|OV (EL ty3 rfl (H11.cell (i := 1) rfl rfl))<|Xf fl45_1 rfl<|cOp e56<|OV (EL ty3 rfl (H11.cell (i := 1) rfl rfl))<|Xf fl45_2 rfl<|OV (EN ty36 rfl (vs := [.int .i64 nt.b.r, .int .i64 nt.b.n]) rfl (H11.cellsR (i := 1) rfl rfl))<|OV (EN ty39 rfl (vs := [.int .i64 nt.vote.slot, .int .i64 nt.vote.b.r, .int .i64 nt.vote.b.n, .slice (hd gv) nt.vote.val.length cv]) rfl (H11.cellsR (i := 2) rfl rfl))<|cOp e56<|OV (EN ty41 rfl (vs := [.int .i64 nt.entry.slot, .slice (hd gq) nt.entry.val.length cq]) rfl (H11.cellsR (i := 4) rfl rfl))<|Xf fl45_5 rfl<|OV (EN ty43 rfl (vs := [.int .i64 nt.right.g, strV nt.right.key, .int .i64 nt.right.lease, .int .i64 nt.right.net]) rfl (H11.cellsR (i := 1) rfl rfl))<|Xf fl45_6 rfl<|cOp e56<|OV (EL ty3 rfl (H11.cell (i := 1) rfl rfl))<|Xf fl45_7 rfl<|OV (EL ty3 rfl (H11.cell (i := 1) rfl rfl))<|OV (EB ty45 pl45 rfl (cs := [.int .i64 nt.kind, .int .i64 nt.group, .int .i64 nt.b.r, .int .i64 nt.b.n, .int .i64 nt.vote.slot, .int .i64 nt.vote.b.r, .int .i64 nt.vote.b.n, .slice (hd gv) nt.vote.val.length cv, .int .i64 nt.entry.slot, .slice (hd gq) nt.entry.val.length cq, .int .i64 nt.right.g, strV nt.right.key, .int .i64 nt.right.lease, .int .i64 nt.right.net, .int .i64 nt.client, .int .i64 nt.seq]) (by kernel_rfl))<|cOp e56<|ops_buildSlice Tryz.underlying22 ty45 H11 (cs := [.int .i64 nt.kind, .int .i64 nt.group, .int .i64 nt.b.r, .int .i64 nt.b.n, .int .i64 nt.vote.slot, .int .i64 nt.vote.b.r, .int .i64 nt.vote.b.n, .slice (hd gv) nt.vote.val.length cv, .int .i64 nt.entry.slot, .slice (hd gq) nt.entry.val.length cq, .int .i64 nt.right.g, strV nt.right.key, .int .i64 nt.right.lease, .int .i64 nt.right.net, .int .i64 nt.client, .int .i64 nt.seq]) rfl (by decide) (by kernel_rfl)<|fun w12 gk H12 _=>ops_grow Tryz.underlying22 ty45 (by decide) H12 0 hG rfl rfl (rs := [[.int .i64 nt.kind, .int .i64 nt.group, .int .i64 nt.b.r, .int .i64 nt.b.n, .int .i64 nt.vote.slot, .int .i64 nt.vote.b.r, .int .i64 nt.vote.b.n, .slice (hd gv) nt.vote.val.length cv, .int .i64 nt.entry.slot, .slice (hd gq) nt.entry.val.length cq, .int .i64 nt.right.g, strV nt.right.key, .int .i64 nt.right.lease, .int .i64 nt.right.net, .int .i64 nt.client, .int .i64 nt.seq]]) (m := 1) rfl rfl (H12.rd (i := 6) (o := some _) (xs := [.int .i64 nt.kind, .int .i64 nt.group, .int .i64 nt.b.r, .int .i64 nt.b.n, .int .i64 nt.vote.slot, .int .i64 nt.vote.b.r, .int .i64 nt.vote.b.n, .slice (hd gv) nt.vote.val.length cv, .int .i64 nt.entry.slot, .slice (hd gq) nt.entry.val.length cq, .int .i64 nt.right.g, strV nt.right.key, .int .i64 nt.right.lease, .int .i64 nt.right.net, .int .i64 nt.client, .int .i64 nt.seq]) (sp := []) rfl rfl (by decide)) (Pl.one rfl) (fun p hp => by rw [List.mem_singleton.1 hp]; rfl) (by omega) (by omega) (by decide)<|fun w13 g2 cap2 sp2 H13 hG2=>Xa rfl<|Xr e56<|run_nil (blk_normal ?_)
 refine J2<|Xm rfl<|OV (ex_add rfl rfl (IntWalk.i64_in _ (by omega)))<|Xa rfl<|Xr e56<|run_nil (rnd_normal ?_)
 have HW := HB.all H13
 have hplB := fun x (hb : g2 = some x) => H13.place (i := 0) (g := x) (by rw [← hb]; rfl)
 exact ⟨l.length - (i + 1), by omega, i + 1, _, g2, cap2, _, sp2, rfl, (fs (fn (fn (fs (fs (fn (fn (fn (fn (fn (fn (fn (fn (fn (fn (fn (fn (fn (fn (fn (fn (fn (fn (fn (fn (fn (fn (fn (fn (fn (fn (fn (fn (fn (fn (fn (fn (fn (fn (fn (fn (fn (fn (fn (fn (fn (fn (fn (fn (fn (fn (fn (fn (fn (fn (fn f0)))))))))))))))))))))))))))))))))))))))))))))))))))))))), by omega, by omega, hG2, by
   rw [take_snoc hx]
   refine (hA.imp fun p x h => h.to H13 (gi' := g2) fun k hk hne hlt => ⟨fun hb => ?_, fun e => ?_⟩).app (All2.one ⟨gv, cv, gq, cq, rfl, Ownd.row HW (i := 3) (j := 0) rfl rfl (by decide) (fun k hk => by cases hk) (Nat.le_refl _) hbv.2.2, Ownd.row HW (i := 5) (j := 0) rfl rfl (by decide) (fun k hk => by cases hk) (Nat.le_refl _) hbe.2.2⟩)
   · cases g with
     | none => simp [bl] at hb
     | some q => exact hne (by rw [show k = q by simpa [bl] using hb])
   · rcases hplB k e with h | h
     · cases g with
       | none => simp [bl] at h
       | some q => exact hne (by rw [show k = q by simpa [bl] using h])
     · omega, HW.pick [0] (by decide)⟩
 refine TQ rfl<|OA ty41 H8<|fun w9 g7 H9 _=>OE<|⟨fun hne => H9.pick [0, 1, 2, 3] (by decide), ?_⟩
 refine cT e56<|TQ rfl<|ops_append Tryz.underlying37 ty5 (by decide) (H9.nil 5) 5 (g := none) (n := 0) (cap := 0) (xs := []) (sp := []) rfl rfl rfl (by decide) (by decide) (fun _ => rfl) rfl (hbe.1.to0 (HB.all H9)) (u8s_one' _) (by have := hbe.2.2; omega) (by have := hbe.2.2; omega) (by decide)<|fun w10 gq cq sq H10 _ _ _=>?_
 rw [Nat.zero_add nt.entry.val.length]
 refine OE ?_
 refine ⟨fun hne => H10.pick [0, 1, 2, 3] (by decide), ?_⟩
 refine cT e56<|TP rfl<|MV (fun wz hz => EB ty41 pl41 rfl rfl)<|TQ rfl<|OS ty41 H10 4 (vs := [.int .i64 nt.entry.slot, .slice (hd gq) nt.entry.val.length cq]) rfl rfl rfl rfl rfl (Nat.le_refl 2) rfl<|fun w11 H11=>OE<|⟨fun hne => absurd rfl hne, ?_⟩
 refine cT e56<|mixt_nil<|cR e56<|J2<|Xm rfl<|Xf fl45_0 rfl<|OV (EL ty3 rfl (H11.cell (i := 1) rfl rfl))<|Xf fl45_1 rfl<|cOp e56<|OV (EL ty3 rfl (H11.cell (i := 1) rfl rfl))<|Xf fl45_2 rfl<|OV (EN ty36 rfl (vs := [.int .i64 nt.b.r, .int .i64 nt.b.n]) rfl (H11.cellsR (i := 1) rfl rfl))<|OV (EN ty39 rfl (vs := [.int .i64 nt.vote.slot, .int .i64 nt.vote.b.r, .int .i64 nt.vote.b.n, .slice (hd gv) nt.vote.val.length cv]) rfl (H11.cellsR (i := 2) rfl rfl))<|cOp e56<|OV (EN ty41 rfl (vs := [.int .i64 nt.entry.slot, .slice (hd gq) nt.entry.val.length cq]) rfl (H11.cellsR (i := 4) rfl rfl))<|Xf fl45_5 rfl<|OV (EN ty43 rfl (vs := [.int .i64 nt.right.g, strV nt.right.key, .int .i64 nt.right.lease, .int .i64 nt.right.net]) rfl (H11.cellsR (i := 1) rfl rfl))<|Xf fl45_6 rfl<|cOp e56<|OV (EL ty3 rfl (H11.cell (i := 1) rfl rfl))<|Xf fl45_7 rfl<|OV (EL ty3 rfl (H11.cell (i := 1) rfl rfl))<|OV (EB ty45 pl45 rfl (cs := [.int .i64 nt.kind, .int .i64 nt.group, .int .i64 nt.b.r, .int .i64 nt.b.n, .int .i64 nt.vote.slot, .int .i64 nt.vote.b.r, .int .i64 nt.vote.b.n, .slice (hd gv) nt.vote.val.length cv, .int .i64 nt.entry.slot, .slice (hd gq) nt.entry.val.length cq, .int .i64 nt.right.g, strV nt.right.key, .int .i64 nt.right.lease, .int .i64 nt.right.net, .int .i64 nt.client, .int .i64 nt.seq]) (by kernel_rfl))<|cOp e56<|ops_buildSlice Tryz.underlying22 ty45 H11 (cs := [.int .i64 nt.kind, .int .i64 nt.group, .int .i64 nt.b.r, .int .i64 nt.b.n, .int .i64 nt.vote.slot, .int .i64 nt.vote.b.r, .int .i64 nt.vote.b.n, .slice (hd gv) nt.vote.val.length cv, .int .i64 nt.entry.slot, .slice (hd gq) nt.entry.val.length cq, .int .i64 nt.right.g, strV nt.right.key, .int .i64 nt.right.lease, .int .i64 nt.right.net, .int .i64 nt.client, .int .i64 nt.seq]) rfl (by decide) (by kernel_rfl)<|fun w12 gk H12 _=>ops_grow Tryz.underlying22 ty45 (by decide) H12 0 hG rfl rfl (rs := [[.int .i64 nt.kind, .int .i64 nt.group, .int .i64 nt.b.r, .int .i64 nt.b.n, .int .i64 nt.vote.slot, .int .i64 nt.vote.b.r, .int .i64 nt.vote.b.n, .slice (hd gv) nt.vote.val.length cv, .int .i64 nt.entry.slot, .slice (hd gq) nt.entry.val.length cq, .int .i64 nt.right.g, strV nt.right.key, .int .i64 nt.right.lease, .int .i64 nt.right.net, .int .i64 nt.client, .int .i64 nt.seq]]) (m := 1) rfl rfl (H12.rd (i := 6) (o := some _) (xs := [.int .i64 nt.kind, .int .i64 nt.group, .int .i64 nt.b.r, .int .i64 nt.b.n, .int .i64 nt.vote.slot, .int .i64 nt.vote.b.r, .int .i64 nt.vote.b.n, .slice (hd gv) nt.vote.val.length cv, .int .i64 nt.entry.slot, .slice (hd gq) nt.entry.val.length cq, .int .i64 nt.right.g, strV nt.right.key, .int .i64 nt.right.lease, .int .i64 nt.right.net, .int .i64 nt.client, .int .i64 nt.seq]) (sp := []) rfl rfl (by decide)) (Pl.one rfl) (fun p hp => by rw [List.mem_singleton.1 hp]; rfl) (by omega) (by omega) (by decide)<|fun w13 g2 cap2 sp2 H13 hG2=>Xa rfl<|Xr e56<|run_nil (blk_normal ?_)
 refine J2<|Xm rfl<|OV (ex_add rfl rfl (IntWalk.i64_in _ (by omega)))<|Xa rfl<|Xr e56<|run_nil (rnd_normal ?_)
 have HW := HB.all H13
 have hplB := fun x (hb : g2 = some x) => H13.place (i := 0) (g := x) (by rw [← hb]; rfl)
 exact ⟨l.length - (i + 1), by omega, i + 1, _, g2, cap2, _, sp2, rfl, (fs (fn (fn (fs (fs (fn (fn (fn (fn (fn (fn (fn (fn (fn (fn (fn (fn (fn (fn (fn (fn (fn (fn (fn (fn (fn (fn (fn (fn (fn (fn (fn (fn (fn (fn (fn (fn (fn (fn (fn (fn (fn (fn (fn (fn (fn (fn (fn (fn (fn (fn (fn (fn (fn (fn (fn f0)))))))))))))))))))))))))))))))))))))))))))))))))))))))), by omega, by omega, hG2, by
   rw [take_snoc hx]
   refine (hA.imp fun p x h => h.to H13 (gi' := g2) fun k hk hne hlt => ⟨fun hb => ?_, fun e => ?_⟩).app (All2.one ⟨gv, cv, gq, cq, rfl, Ownd.row HW (i := 3) (j := 0) rfl rfl (by decide) (fun k hk => by cases hk) (Nat.le_refl _) hbv.2.2, Ownd.row HW (i := 5) (j := 0) rfl rfl (by decide) (fun k hk => by cases hk) (Nat.le_refl _) hbe.2.2⟩)
   · cases g with
     | none => simp [bl] at hb
     | some q => exact hne (by rw [show k = q by simpa [bl] using hb])
   · rcases hplB k e with h | h
     · cases g with
       | none => simp [bl] at h
       | some q => exact hne (by rw [show k = q by simpa [bl] using h])
     · omega, HW.pick [0] (by decide)⟩
 refine TQ rfl<|OA ty39 H4<|fun w5 g6 H5 _=>OE<|⟨fun hne => H5.pick [0, 1] (by decide), ?_⟩
 refine cT e56<|TQ rfl<|ops_append Tryz.underlying37 ty5 (by decide) (H5.nil 5) 3 (g := none) (n := 0) (cap := 0) (xs := []) (sp := []) rfl rfl rfl (by decide) (by decide) (fun _ => rfl) rfl (hbv.1.to0 (HB.all H5)) (u8s_one' _) (by have := hbv.2.2; omega) (by have := hbv.2.2; omega) (by decide)<|fun w6 gv cv sv H6 _ _ _=>?_
 rw [Nat.zero_add nt.vote.val.length]
 refine OE ?_
 refine ⟨fun hne => H6.pick [0, 1] (by decide), ?_⟩
 refine cT e56<|TP rfl<|MV (fun wz hz => EB ty39 pl39 rfl rfl)<|TQ rfl<|OS ty39 H6 2 (vs := [.int .i64 nt.vote.slot, .int .i64 nt.vote.b.r, .int .i64 nt.vote.b.n, .slice (hd gv) nt.vote.val.length cv]) rfl rfl rfl rfl rfl (Nat.le_refl 4) rfl<|fun w7 H7=>OE<|⟨fun hne => absurd rfl hne, ?_⟩
 refine cT e56<|mixt_nil<|cR e56<|J1<|run_mixT 9 (.p 0 (.p 1 (.p 2 (.p 3 (.p 4 (.p 5 (.two 6 (.p 7 (.o 8 (.o 9 .nil))) 8 (.o 6 (.p 7 (.o 9 .nil)))))))))) H7 [0, 1, 2, 3] mixed (by decide) (by kernel_rfl) ?_
 rintro w8 hw8
 have H8 := Hp.drew H7; rw [← hw8] at H8
 refine Tf rfl fl45_4 rfl<|Tf rfl fl41_0 rfl<|TP rfl<|MV (fun wz hz => EL ty3 rfl (hz.cell (i := 1) rfl rfl))<|Tf rfl fl45_4 rfl<|cT e56<|Tf rfl fl41_1 rfl<|TP rfl<|MV (fun wz hz => EL ty37 rfl (hz.cell (i := 1) rfl rfl))<|mixt_two ?_ ?_
 refine TQ rfl<|ops_append Tryz.underlying37 ty5 (by decide) (H8.nil 5) 4 (g := none) (n := 0) (cap := 0) (xs := []) (sp := []) rfl rfl rfl (by decide) (by decide) (fun _ => rfl) rfl (hbe.1.to0 (HB.all H8)) (u8s_one' _) (by have := hbe.2.2; omega) (by have := hbe.2.2; omega) (by decide)<|fun w9 gq cq sq H9 _ _ _=>?_
 rw [Nat.zero_add nt.entry.val.length]
 refine OE ?_
 refine ⟨fun hne => H9.pick [0, 1, 2, 3] (by decide), ?_⟩
 refine cT e56<|TP rfl<|MV (fun wz hz => EB ty41 pl41 rfl rfl)<|TQ rfl<|OA ty41 H9<|fun w10 g7 H10 _=>?_
 replace H10 := H10.pick [0, 1, 2, 3, 5, 4] (by decide)
 refine OE ?_
 refine ⟨fun hne => H10.pick [0, 1, 2, 3] (by decide), ?_⟩
 refine cT e56<|TQ rfl<|OS ty41 H10 4 (vs := [.int .i64 nt.entry.slot, .slice (hd gq) nt.entry.val.length cq]) rfl rfl rfl rfl rfl (Nat.le_refl 2) rfl<|fun w11 H11=>OE<|⟨fun hne => absurd rfl hne, ?_⟩
 refine cT e56<|mixt_nil<|cR e56<|J2<|Xm rfl<|Xf fl45_0 rfl<|OV (EL ty3 rfl (H11.cell (i := 1) rfl rfl))<|Xf fl45_1 rfl<|cOp e56<|OV (EL ty3 rfl (H11.cell (i := 1) rfl rfl))<|Xf fl45_2 rfl<|OV (EN ty36 rfl (vs := [.int .i64 nt.b.r, .int .i64 nt.b.n]) rfl (H11.cellsR (i := 1) rfl rfl))<|OV (EN ty39 rfl (vs := [.int .i64 nt.vote.slot, .int .i64 nt.vote.b.r, .int .i64 nt.vote.b.n, .slice (hd gv) nt.vote.val.length cv]) rfl (H11.cellsR (i := 2) rfl rfl))<|cOp e56<|OV (EN ty41 rfl (vs := [.int .i64 nt.entry.slot, .slice (hd gq) nt.entry.val.length cq]) rfl (H11.cellsR (i := 4) rfl rfl))<|Xf fl45_5 rfl<|OV (EN ty43 rfl (vs := [.int .i64 nt.right.g, strV nt.right.key, .int .i64 nt.right.lease, .int .i64 nt.right.net]) rfl (H11.cellsR (i := 1) rfl rfl))<|Xf fl45_6 rfl<|cOp e56<|OV (EL ty3 rfl (H11.cell (i := 1) rfl rfl))<|Xf fl45_7 rfl<|OV (EL ty3 rfl (H11.cell (i := 1) rfl rfl))<|OV (EB ty45 pl45 rfl (cs := [.int .i64 nt.kind, .int .i64 nt.group, .int .i64 nt.b.r, .int .i64 nt.b.n, .int .i64 nt.vote.slot, .int .i64 nt.vote.b.r, .int .i64 nt.vote.b.n, .slice (hd gv) nt.vote.val.length cv, .int .i64 nt.entry.slot, .slice (hd gq) nt.entry.val.length cq, .int .i64 nt.right.g, strV nt.right.key, .int .i64 nt.right.lease, .int .i64 nt.right.net, .int .i64 nt.client, .int .i64 nt.seq]) (by kernel_rfl))<|cOp e56<|ops_buildSlice Tryz.underlying22 ty45 H11 (cs := [.int .i64 nt.kind, .int .i64 nt.group, .int .i64 nt.b.r, .int .i64 nt.b.n, .int .i64 nt.vote.slot, .int .i64 nt.vote.b.r, .int .i64 nt.vote.b.n, .slice (hd gv) nt.vote.val.length cv, .int .i64 nt.entry.slot, .slice (hd gq) nt.entry.val.length cq, .int .i64 nt.right.g, strV nt.right.key, .int .i64 nt.right.lease, .int .i64 nt.right.net, .int .i64 nt.client, .int .i64 nt.seq]) rfl (by decide) (by kernel_rfl)<|fun w12 gk H12 _=>ops_grow Tryz.underlying22 ty45 (by decide) H12 0 hG rfl rfl (rs := [[.int .i64 nt.kind, .int .i64 nt.group, .int .i64 nt.b.r, .int .i64 nt.b.n, .int .i64 nt.vote.slot, .int .i64 nt.vote.b.r, .int .i64 nt.vote.b.n, .slice (hd gv) nt.vote.val.length cv, .int .i64 nt.entry.slot, .slice (hd gq) nt.entry.val.length cq, .int .i64 nt.right.g, strV nt.right.key, .int .i64 nt.right.lease, .int .i64 nt.right.net, .int .i64 nt.client, .int .i64 nt.seq]]) (m := 1) rfl rfl (H12.rd (i := 6) (o := some _) (xs := [.int .i64 nt.kind, .int .i64 nt.group, .int .i64 nt.b.r, .int .i64 nt.b.n, .int .i64 nt.vote.slot, .int .i64 nt.vote.b.r, .int .i64 nt.vote.b.n, .slice (hd gv) nt.vote.val.length cv, .int .i64 nt.entry.slot, .slice (hd gq) nt.entry.val.length cq, .int .i64 nt.right.g, strV nt.right.key, .int .i64 nt.right.lease, .int .i64 nt.right.net, .int .i64 nt.client, .int .i64 nt.seq]) (sp := []) rfl rfl (by decide)) (Pl.one rfl) (fun p hp => by rw [List.mem_singleton.1 hp]; rfl) (by omega) (by omega) (by decide)<|fun w13 g2 cap2 sp2 H13 hG2=>Xa rfl<|Xr e56<|run_nil (blk_normal ?_)
 refine J2<|Xm rfl<|OV (ex_add rfl rfl (IntWalk.i64_in _ (by omega)))<|Xa rfl<|Xr e56<|run_nil (rnd_normal ?_)
 have HW := HB.all H13
 have hplB := fun x (hb : g2 = some x) => H13.place (i := 0) (g := x) (by rw [← hb]; rfl)
 exact ⟨l.length - (i + 1), by omega, i + 1, _, g2, cap2, _, sp2, rfl, (fs (fn (fn (fs (fs (fn (fn (fn (fn (fn (fn (fn (fn (fn (fn (fn (fn (fn (fn (fn (fn (fn (fn (fn (fn (fn (fn (fn (fn (fn (fn (fn (fn (fn (fn (fn (fn (fn (fn (fn (fn (fn (fn (fn (fn (fn (fn (fn (fn (fn (fn (fn (fn (fn (fn (fn f0)))))))))))))))))))))))))))))))))))))))))))))))))))))))), by omega, by omega, hG2, by
   rw [take_snoc hx]
   refine (hA.imp fun p x h => h.to H13 (gi' := g2) fun k hk hne hlt => ⟨fun hb => ?_, fun e => ?_⟩).app (All2.one ⟨gv, cv, gq, cq, rfl, Ownd.row HW (i := 3) (j := 0) rfl rfl (by decide) (fun k hk => by cases hk) (Nat.le_refl _) hbv.2.2, Ownd.row HW (i := 5) (j := 0) rfl rfl (by decide) (fun k hk => by cases hk) (Nat.le_refl _) hbe.2.2⟩)
   · cases g with
     | none => simp [bl] at hb
     | some q => exact hne (by rw [show k = q by simpa [bl] using hb])
   · rcases hplB k e with h | h
     · cases g with
       | none => simp [bl] at h
       | some q => exact hne (by rw [show k = q by simpa [bl] using h])
     · omega, HW.pick [0] (by decide)⟩
 refine TQ rfl<|OA ty41 H8<|fun w9 g7 H9 _=>OE<|⟨fun hne => H9.pick [0, 1, 2, 3] (by decide), ?_⟩
 refine cT e56<|TQ rfl<|ops_append Tryz.underlying37 ty5 (by decide) (H9.nil 5) 5 (g := none) (n := 0) (cap := 0) (xs := []) (sp := []) rfl rfl rfl (by decide) (by decide) (fun _ => rfl) rfl (hbe.1.to0 (HB.all H9)) (u8s_one' _) (by have := hbe.2.2; omega) (by have := hbe.2.2; omega) (by decide)<|fun w10 gq cq sq H10 _ _ _=>?_
 rw [Nat.zero_add nt.entry.val.length]
 refine OE ?_
 refine ⟨fun hne => H10.pick [0, 1, 2, 3] (by decide), ?_⟩
 refine cT e56<|TP rfl<|MV (fun wz hz => EB ty41 pl41 rfl rfl)<|TQ rfl<|OS ty41 H10 4 (vs := [.int .i64 nt.entry.slot, .slice (hd gq) nt.entry.val.length cq]) rfl rfl rfl rfl rfl (Nat.le_refl 2) rfl<|fun w11 H11=>OE<|⟨fun hne => absurd rfl hne, ?_⟩
 refine cT e56<|mixt_nil<|cR e56<|J2<|Xm rfl<|Xf fl45_0 rfl<|OV (EL ty3 rfl (H11.cell (i := 1) rfl rfl))<|Xf fl45_1 rfl<|cOp e56<|OV (EL ty3 rfl (H11.cell (i := 1) rfl rfl))<|Xf fl45_2 rfl<|OV (EN ty36 rfl (vs := [.int .i64 nt.b.r, .int .i64 nt.b.n]) rfl (H11.cellsR (i := 1) rfl rfl))<|OV (EN ty39 rfl (vs := [.int .i64 nt.vote.slot, .int .i64 nt.vote.b.r, .int .i64 nt.vote.b.n, .slice (hd gv) nt.vote.val.length cv]) rfl (H11.cellsR (i := 2) rfl rfl))<|cOp e56<|OV (EN ty41 rfl (vs := [.int .i64 nt.entry.slot, .slice (hd gq) nt.entry.val.length cq]) rfl (H11.cellsR (i := 4) rfl rfl))<|Xf fl45_5 rfl<|OV (EN ty43 rfl (vs := [.int .i64 nt.right.g, strV nt.right.key, .int .i64 nt.right.lease, .int .i64 nt.right.net]) rfl (H11.cellsR (i := 1) rfl rfl))<|Xf fl45_6 rfl<|cOp e56<|OV (EL ty3 rfl (H11.cell (i := 1) rfl rfl))<|Xf fl45_7 rfl<|OV (EL ty3 rfl (H11.cell (i := 1) rfl rfl))<|OV (EB ty45 pl45 rfl (cs := [.int .i64 nt.kind, .int .i64 nt.group, .int .i64 nt.b.r, .int .i64 nt.b.n, .int .i64 nt.vote.slot, .int .i64 nt.vote.b.r, .int .i64 nt.vote.b.n, .slice (hd gv) nt.vote.val.length cv, .int .i64 nt.entry.slot, .slice (hd gq) nt.entry.val.length cq, .int .i64 nt.right.g, strV nt.right.key, .int .i64 nt.right.lease, .int .i64 nt.right.net, .int .i64 nt.client, .int .i64 nt.seq]) (by kernel_rfl))<|cOp e56<|ops_buildSlice Tryz.underlying22 ty45 H11 (cs := [.int .i64 nt.kind, .int .i64 nt.group, .int .i64 nt.b.r, .int .i64 nt.b.n, .int .i64 nt.vote.slot, .int .i64 nt.vote.b.r, .int .i64 nt.vote.b.n, .slice (hd gv) nt.vote.val.length cv, .int .i64 nt.entry.slot, .slice (hd gq) nt.entry.val.length cq, .int .i64 nt.right.g, strV nt.right.key, .int .i64 nt.right.lease, .int .i64 nt.right.net, .int .i64 nt.client, .int .i64 nt.seq]) rfl (by decide) (by kernel_rfl)<|fun w12 gk H12 _=>ops_grow Tryz.underlying22 ty45 (by decide) H12 0 hG rfl rfl (rs := [[.int .i64 nt.kind, .int .i64 nt.group, .int .i64 nt.b.r, .int .i64 nt.b.n, .int .i64 nt.vote.slot, .int .i64 nt.vote.b.r, .int .i64 nt.vote.b.n, .slice (hd gv) nt.vote.val.length cv, .int .i64 nt.entry.slot, .slice (hd gq) nt.entry.val.length cq, .int .i64 nt.right.g, strV nt.right.key, .int .i64 nt.right.lease, .int .i64 nt.right.net, .int .i64 nt.client, .int .i64 nt.seq]]) (m := 1) rfl rfl (H12.rd (i := 6) (o := some _) (xs := [.int .i64 nt.kind, .int .i64 nt.group, .int .i64 nt.b.r, .int .i64 nt.b.n, .int .i64 nt.vote.slot, .int .i64 nt.vote.b.r, .int .i64 nt.vote.b.n, .slice (hd gv) nt.vote.val.length cv, .int .i64 nt.entry.slot, .slice (hd gq) nt.entry.val.length cq, .int .i64 nt.right.g, strV nt.right.key, .int .i64 nt.right.lease, .int .i64 nt.right.net, .int .i64 nt.client, .int .i64 nt.seq]) (sp := []) rfl rfl (by decide)) (Pl.one rfl) (fun p hp => by rw [List.mem_singleton.1 hp]; rfl) (by omega) (by omega) (by decide)<|fun w13 g2 cap2 sp2 H13 hG2=>Xa rfl<|Xr e56<|run_nil (blk_normal ?_)
 refine J2<|Xm rfl<|OV (ex_add rfl rfl (IntWalk.i64_in _ (by omega)))<|Xa rfl<|Xr e56<|run_nil (rnd_normal ?_)
 have HW := HB.all H13
 have hplB := fun x (hb : g2 = some x) => H13.place (i := 0) (g := x) (by rw [← hb]; rfl)
 exact ⟨l.length - (i + 1), by omega, i + 1, _, g2, cap2, _, sp2, rfl, (fs (fn (fn (fs (fs (fn (fn (fn (fn (fn (fn (fn (fn (fn (fn (fn (fn (fn (fn (fn (fn (fn (fn (fn (fn (fn (fn (fn (fn (fn (fn (fn (fn (fn (fn (fn (fn (fn (fn (fn (fn (fn (fn (fn (fn (fn (fn (fn (fn (fn (fn (fn (fn (fn (fn (fn f0)))))))))))))))))))))))))))))))))))))))))))))))))))))))), by omega, by omega, hG2, by
   rw [take_snoc hx]
   refine (hA.imp fun p x h => h.to H13 (gi' := g2) fun k hk hne hlt => ⟨fun hb => ?_, fun e => ?_⟩).app (All2.one ⟨gv, cv, gq, cq, rfl, Ownd.row HW (i := 3) (j := 0) rfl rfl (by decide) (fun k hk => by cases hk) (Nat.le_refl _) hbv.2.2, Ownd.row HW (i := 5) (j := 0) rfl rfl (by decide) (fun k hk => by cases hk) (Nat.le_refl _) hbe.2.2⟩)
   · cases g with
     | none => simp [bl] at hb
     | some q => exact hne (by rw [show k = q by simpa [bl] using hb])
   · rcases hplB k e with h | h
     · cases g with
       | none => simp [bl] at h
       | some q => exact hne (by rw [show k = q by simpa [bl] using h])
     · omega, HW.pick [0] (by decide)⟩
 obtain rfl : i = l.length := by omega
 refine Xr e56<|J4 rfl<|J8<|rnd_exit<|blk_exit<|Rq<|Xm rfl<|Xa rfl<|Xr e56<|J5<|FN1 rfl rfl ?_
 rw [List.take_length] at hA
 have hlq := hA.len
 rw [hlq]
 exact ⟨g, cap, qs, sp, rfl, hG, hA, (HB.all H1).pick [0] (by decide)⟩
end Go.Proofs.YtbninklfoogmdaaGreat
