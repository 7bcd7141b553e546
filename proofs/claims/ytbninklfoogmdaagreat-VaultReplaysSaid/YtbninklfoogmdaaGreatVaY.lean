/- Walks of layer 2, printed by wip/gen/codec.py. -/
import Derived.Test.YtbninklfoogmdaaGreatNf
import Derived.Test.YtbninklfoogmdaaGreatRe
import Derived.Test.YtbninklfoogmdaaGreatVaX
import Derived.Test.YtbninklfoogmdaaGreatVaU
import Derived.Test.YtbninklfoogmdaaGreatVaV
import Derived.Test.YtbninklfoogmdaaGreatVaO
namespace Go.Proofs.YtbninklfoogmdaaGreat
open Go Go.RowKit
set_option linter.unusedVariables false
attribute [local irreducible] Still Ops Does Cd
set_option maxRecDepth 100000 in
set_option maxHeartbeats 32000000 in
theorem replays_v (A : Option Addr) (k : Nat) (l : List Nt) (okl : Nat → Prop) (w0 : World) (hl : Sl (NtR w0 okl) 16 w0 okl A l) (hn : l.length ≤ 840000000000) : Does Tryz.prog 4 #[.slice A l.length k] w0 (fun r w' => r = .bool true ∧ Hp w0 w' [] []) := by
 refine does_of Tryz.func4 Tryz.ntmps4 rfl<|cR e95 ?_
 have H := Hp.refl w0
 obtain ⟨n0, hn0⟩ : ∃ n, n = w0.heap.size := ⟨_, rfl⟩
 refine Rq<|Xa rfl<|Xr e95<|Rq<|Xm rfl<|OQ (EC gf11 rfl) (copy_r A k l okl _ (hl.toN H k0) hn) ?_
 rintro _ w1 ⟨gc, cc, qs, spc, rfl, hGc, hAc, Hd⟩
 have HC : Hp w0 w1 [] [((gc, 45, qs.flatten ++ spc) : Ent)] := H.call0 Hd
 have H1 := HC.here
 obtain ⟨n1, hn1⟩ : ∃ n, n = w1.heap.size := ⟨_, rfl⟩
 have hsC := HC.size
 have hnC : ∀ x, n1 ≤ x → x ∉ bl [((gc, 45, qs.flatten ++ spc) : Ent)] := fun x hx => Hp.fresh HC x (by omega)
 have hpC : ∀ x, x ∈ bl [((gc, 45, qs.flatten ++ spc) : Ent)] → n0 ≤ x ∧ x < n1 := fun x hx => ⟨by have := bl_new HC hx; omega, by have := bl_lt HC hx; omega⟩
 refine Xa rfl<|Xr e95<|Rq<|Xm rfl<|OQ (EC gf6 rfl) (replay_v (hd gc) cc l (fun _ => True) _ (copy_sl H1 (i := 0) rfl hGc hAc) hn) ?_
 rintro _ w2 ⟨cs1, e1, b, rfl, hb, hrep1, Hd⟩
 obtain ⟨X1, x1, X2, x2, X3, x3, rfl, _⟩ := id hb
 have HV := H1.callN Hd
 have H2 := HV.here
 have hsV := HV.size
 refine Xm rfl<|Xe rfl rfl<|cOp e95<|Xe rfl rfl<|OA ty27 H2<|fun w3 g4 H3 hg4=>OS ty27 H3 1 (vs := [.slice X1 b.groups.length x1, .slice X2 b.rights.length x2, .slice X3 b.last.length x3]) rfl rfl rfl rfl rfl (Nat.le_refl 3) rfl<|fun w4 H4=>Xa rfl<|Xr e95<|Rq<|Xm rfl ?_
 have hb3 := hb.to (ok' := fun x => n1 ≤ x ∧ x ≠ g4) H4 (fun x hx hlt => ⟨hnC x (by omega), by omega, by omega⟩)
 have hltR := H4.lt (i := 1) rfl
 obtain ⟨WR, hWR⟩ : ∃ n, n = w4.heap.size := ⟨_, rfl⟩
 refine OQ (EC gf12 rfl) (replay_r A k l (fun x => okl x ∧ x < w0.heap.size) _ (hl.toN (HC.all (HV.all H4)) fun x hx hlt => ⟨by simp, hx, hlt⟩) hn) ?_
 rintro _ w5 ⟨cs2, e2, b2, rfl, hw, hrep2, Hd⟩
 obtain ⟨hbb, hee⟩ := Rep.both hrep1 hrep2
 subst hbb hee
 obtain ⟨Y1, y1, Y2, y2, Y3, y3, rfl, _⟩ := id hw
 rw [← hWR] at hw
 have hb4 := hb3.to Hd k0
 have HR := H4.callN Hd
 have hsR := Hd.size
 have H5 := HR.here
 have hsR2 := HR.size
 have hz := hrep1.size hn
 refine Xm rfl<|Xe rfl rfl<|cOp e95<|Xe rfl rfl<|OA ty27 H5<|fun w6 g6 H6 hg6=>?_
 have hkb : ∀ x, (n1 ≤ x ∧ x ≠ g4) → x < w5.heap.size → x ∉ bl [((gc, 45, qs.flatten ++ spc) : Ent), (some g4, 27, [.slice X1 b.groups.length x1, .slice X2 b.rights.length x2, .slice X3 b.last.length x3])] ∧ (n1 ≤ x ∧ x ≠ g4 ∧ x ≠ g6) := fun x hx hlt => ⟨fun hb => (bl2 hb).elim (hnC x hx.1) hx.2, hx.1, hx.2, by omega⟩
 have hkw : ∀ x, up (fun x => okl x ∧ x < w0.heap.size) WR x → x < w5.heap.size → x ∉ bl [((gc, 45, qs.flatten ++ spc) : Ent), (some g4, 27, [.slice X1 b.groups.length x1, .slice X2 b.rights.length x2, .slice X3 b.last.length x3])] ∧ ((x < n0 ∨ n1 ≤ x) ∧ x ≠ g4 ∧ x ≠ g6) := fun x hx hlt => by
   rcases hx with hx | hx
   · have := hx.2
     exact ⟨fun hb => (bl2 hb).elim (fun h1 => by have := hpC x h1; omega) (fun h1 => by omega), .inl (by omega), by omega, by omega⟩
   · exact ⟨fun hb => (bl2 hb).elim (fun h1 => by have := hpC x h1; omega) (fun h1 => by omega), .inr (by omega), by omega, by omega⟩
 refine OS ty27 H6 2 (vs := [.slice Y1 b.groups.length y1, .slice Y2 b.rights.length y2, .slice Y3 b.last.length y3]) rfl rfl rfl rfl rfl (Nat.le_refl 3) rfl<|fun w7 H7=>Xa rfl<|Xr e95<|J1<|Rq<|OC (EC gf7 rfl) (awake_v _)<|fun w8 Hd=>have H8:=H7.callN Hd;Xn rfl<|Xm rfl<|cOp e95<|OY rfl<|OV (EN ty27 rfl (vs := [.slice X1 b.groups.length x1, .slice X2 b.rights.length x2, .slice X3 b.last.length x3]) rfl (H8.cellsR (i := 1) rfl rfl))<|OY rfl<|OV (EN ty27 rfl (vs := [.slice Y1 b.groups.length y1, .slice Y2 b.rights.length y2, .slice Y3 b.last.length y3]) rfl (H8.cellsR (i := 2) rfl rfl))<|cOp e95<|OY rfl ?_
 obtain ⟨_, hx1, hx2, hx3⟩ := (hb4.to H8 hkb).of3
 obtain ⟨_, hy1, hy2, hy3⟩ := (hw.to H8 hkw).of3
 refine OC (EC gf13 rfl) (same_bo b X1 x1 X2 x2 X3 x3 Y1 y1 Y2 y2 Y3 y3 _ _ _ hx1 hx2 hx3 hy1 hy2 hy3 hz.1 hz.2.1 hz.2.2.1 hz.2.2.2)<|fun w9 Hd=>have H9:=H8.callN Hd;OY rfl<|Xn rfl<|Xu rfl rfl<|Xm rfl<|cOp e95<|OY rfl<|Xm rfl<|OY rfl<|Xm rfl<|cOp e95<|OY rfl<|OT0 (ex_neq rfl rfl) (fun h => h rfl)<|Xu rfl rfl<|Xm rfl<|cOp e95<|OY rfl<|Xm rfl<|OY rfl<|Xm rfl<|cOp e95<|OY rfl ?_
 have hA := hAc.imp fun p x h => NtW.to h (gi' := gc) (HV.all (HR.all H9)) fun k _ hne _ => ⟨fun hb => hne (bl_one hb), hne⟩
 refine OC (EC gf14 rfl) (same_nts (hd gc) A cc k l (fun _ => True) okl _ (copy_sl H9 (i := 0) rfl hGc hA) (hl.toN (HC.all (HV.all (HR.all H9))) k0) (by omega))<|fun w10 Hd=>have H10:=H9.callN Hd;OY rfl<|Xn rfl<|Xu rfl rfl<|Xm rfl<|cOp e95<|OY rfl<|OQ (EC gf8 rfl) (empty_v _) ?_
 rintro _ w11 ⟨_, rfl, ⟨E1, ex1, E2, ex2, E3, ex3, rfl, hE1, hE2, hE3⟩, HdE⟩
 have H11 := H10.callN HdE
 refine OY rfl<|OQ (EC gf16 rfl) (empty_r _) ?_
 rintro _ w12 ⟨_, rfl, ⟨F1, fx1, F2, fx2, F3, fx3, rfl, hF1, hF2, hF3⟩, HdF⟩
 have H12 := H11.callN HdF
 refine cOp e95<|OY rfl<|OC (EC gf13 rfl) (same_bo Bo.empty E1 ex1 E2 ex2 E3 ex3 F1 fx1 F2 fx2 F3 fx3 _ _ _ (hE1.toS HdF k0) (hE2.toR HdF k0) (hE3.toM HdF k0) hF1 hF2 hF3 (Rep.size (l := []) (.inl ⟨rfl, rfl, Good.empty⟩) (by decide)).1 (Rep.size (l := []) (.inl ⟨rfl, rfl, Good.empty⟩) (by decide)).2.1 (Rep.size (l := []) (.inl ⟨rfl, rfl, Good.empty⟩) (by decide)).2.2.1 (Rep.size (l := []) (.inl ⟨rfl, rfl, Good.empty⟩) (by decide)).2.2.2)<|fun w13 Hd=>have H13:=H12.callN Hd;OY rfl<|Xn rfl<|Xu rfl rfl<|Xr e95<|J4 rfl<|J6<|J1<|Rq<|Xa rfl ?_
 have hb6 := hb4.to H13 hkb
 have hw6 := hw.to H13 hkw
 have hA := hAc.imp fun p x h => (NtW.to h (gi' := gc) (HV.all (HR.all H13)) fun k _ hne _ => ⟨fun hb => hne (bl_one hb), hne⟩)
 have hX : All2 (NtX w13 n0 n1 gc) qs l := by
   refine hAc.imp fun p x h => ?_
   have h1 := NtW.ntx h
   rw [← hn1, ← hn0] at h1
   exact h1.step (HV.all (HR.all H13)) (by omega) fun k _ _ hne hb => absurd (bl_one hb) hne
 have HE := HC.all (HV.all (HR.all H13))
 obtain ⟨hBz, hBe⟩ : ∃ n, n = w13.heap.size := ⟨_, rfl⟩
 have hsE := H13.size
 have HW := H13.here.wide (S' := (ups n0 n1 ++ [g4, g6])) (fun k hk => by
   rcases bl3 hk with h | rfl | rfl
   · exact List.mem_append_left _ (mem_ups.2 (hpC k h))
   · simp
   · simp)
 replace H13 := HW
 refine Xr e95<|J7<|run_loop (fun nQ lQ w => ∃ (i : Nat) (y : Int), l.length - i = nQ ∧ Fits [some (.slice A l.length k), none, none, some (.slice (hd gc) l.length cc), some (.pointer (some ⟨g4, 0, none⟩)), none, some (.pointer (some ⟨g6, 0, none⟩)), none, some (.int .i64 y), none, none, none, none, none, none, none, none, none, none, none, none, none, none, none, none, none, none, none, none, none, none, none, none, none, none, none, none, none, none, none, none, none, none, none, none, none, none, none, none, none, none, none, none, none, none, none, none, none, none, none, none, none, none, none, none, none, none, none, none, none, none, none, none, none, none, none, none, none, none, none, none, none, none, none, none, none, none, none, none, none, none, none, none, none, none] lQ ∧ y = (i : Int) ∧ i ≤ l.length ∧ All2 (NtX w n0 n1 gc) qs l ∧ Hp w13 w (ups n0 n1 ++ [g4, g6]) [((gc, 45, qs.flatten ++ spc) : Ent), (some g4, 27, [.slice X1 b.groups.length x1, .slice X2 b.rights.length x2, .slice X3 b.last.length x3]), (some g6, 27, [.slice Y1 b.groups.length y1, .slice Y2 b.rights.length y2, .slice Y3 b.last.length y3])]) (l.length) ?_ ?_
 exact ⟨0, _, rfl, (fs (fn (fn (fs (fs (fn (fs (fn (fs (fn (fn (fn (fn (fn (fn (fn (fn (fn (fn (fn (fn (fn (fn (fn (fn (fn (fn (fn (fn (fn (fn (fn (fn (fn (fn (fn (fn (fn (fn (fn (fn (fn (fn (fn (fn (fn (fn (fn (fn (fn (fn (fn (fn (fn (fn (fn (fn (fn (fn (fn (fn (fn (fn (fn (fn (fn (fn (fn (fn (fn (fn (fn (fn (fn (fn (fn (fn (fn (fn (fn (fn (fn (fn (fn (fn (fn (fn (fn (fn (fn (fn (fn (fn (fn (fn f0))))))))))))))))))))))))))))))))))))))))))))))))))))))))))))))))))))))))))))))))))))))))))))))), rfl, Nat.zero_le _, hX, H13⟩
 rintro nQ lQ w14 ⟨i, y, rfl, hfit, rfl, hi, hNX, H14⟩
 obtain ⟨j, rfl⟩ := hfit.open
 refine cR e95 ?_
 clear hfit
 refine J1<|Rq<|Xm rfl<|Xm rfl<|OV (ES Tryz.underlying22 rfl)<|OT (ex_lss rfl rfl) (fun hp51 => ?_) (fun hp51 => ?_)
 have hil : i < l.length := by omega
 obtain ⟨nt, hx⟩ := get_of hil
 obtain ⟨p1, hp1, hR⟩ := hNX.get hx
 obtain ⟨u1, c1, u2, c2, rfl, hv1, hv2⟩ := hR
 have hql := hNX.len
 have hcap := hGc.2.1
 obtain ⟨gk, hgk⟩ : ∃ gk, gc = some gk := by
   cases hq : gc with
   | some q => exact ⟨q, rfl⟩
   | none => have := hGc.2.2.1 hq; omega
 subst hgk
 have hsL := H14.size
 have hnK : ∀ k, n0 ≤ k → k < n1 → some gk ≠ some k → k ∉ bl [((some gk, 45, qs.flatten ++ spc) : Ent), (some g4, 27, [.slice X1 b.groups.length x1, .slice X2 b.rights.length x2, .slice X3 b.last.length x3]), (some g6, 27, [.slice Y1 b.groups.length y1, .slice Y2 b.rights.length y2, .slice Y3 b.last.length y3])] := fun k h1 h2 hne hb => by
   rcases bl3 hb with h | h | h
   · exact hne (bl_one h)
   · omega
   · omega
 have hnKS : ∀ k, n0 ≤ k → k < n1 → some gk ≠ some k → (k ∈ (ups n0 n1 ++ [g4, g6]) ∨ hBz ≤ k) ∧ k ∉ bl [((some gk, 45, qs.flatten ++ spc) : Ent), (some g4, 27, [.slice X1 b.groups.length x1, .slice X2 b.rights.length x2, .slice X3 b.last.length x3]), (some g6, 27, [.slice Y1 b.groups.length y1, .slice Y2 b.rights.length y2, .slice Y3 b.last.length y3])] := fun k h1 h2 hne => ⟨.inl (List.mem_append_left _ (mem_ups.2 ⟨h1, h2⟩)), hnK k h1 h2 hne⟩
 refine Xr e95<|J3 rfl<|J6<|J1<|J7<|J1<|Rq<|Xa rfl ?_
 obtain ⟨cs0, hlcs0, HK, hscs0⟩ := hv1.row H14 (by rw [← hBe]; exact hnKS)
 have HI := HK.here
 have hzcs0 := HK.size
 replace H14 := HI
 refine Xr e95<|J7<|run_loop (fun nQ lQ w => ∃ (q : Nat) (z : Int) (cs : List Value), nt.vote.val.length - q = nQ ∧ Fits [some (.slice A l.length k), none, none, some (.slice (hd (some gk)) l.length cc), some (.pointer (some ⟨g4, 0, none⟩)), none, some (.pointer (some ⟨g6, 0, none⟩)), none, some (.int .i64 (i : Int)), some (.int .i64 z), none, none, none, none, none, none, none, none, none, none, none, none, none, none, none, none, none, none, none, none, none, none, none, none, none, none, none, none, none, none, none, none, none, none, none, none, none, none, none, none, none, none, none, none, none, none, none, none, none, none, none, none, none, none, none, none, none, none, none, none, none, none, none, none, none, none, none, none, none, none, none, none, none, none, none, none, none, none, none, none, none, none, none, none, none] lQ ∧ z = (q : Int) ∧ q ≤ nt.vote.val.length ∧ cs.length = cs0.length ∧ Hp w14 w (bl ([((some gk, 45, qs.flatten ++ spc) : Ent), (some g4, 27, [.slice X1 b.groups.length x1, .slice X2 b.rights.length x2, .slice X3 b.last.length x3]), (some g6, 27, [.slice Y1 b.groups.length y1, .slice Y2 b.rights.length y2, .slice Y3 b.last.length y3])] ++ [(u1, 5, cs0)])) ([((some gk, 45, qs.flatten ++ spc) : Ent), (some g4, 27, [.slice X1 b.groups.length x1, .slice X2 b.rights.length x2, .slice X3 b.last.length x3]), (some g6, 27, [.slice Y1 b.groups.length y1, .slice Y2 b.rights.length y2, .slice Y3 b.last.length y3])] ++ [(u1, 5, cs)])) (nt.vote.val.length) ?_ ?_
 exact ⟨0, _, cs0, rfl, (fs (fn (fn (fs (fs (fn (fs (fn (fs (fs (fn (fn (fn (fn (fn (fn (fn (fn (fn (fn (fn (fn (fn (fn (fn (fn (fn (fn (fn (fn (fn (fn (fn (fn (fn (fn (fn (fn (fn (fn (fn (fn (fn (fn (fn (fn (fn (fn (fn (fn (fn (fn (fn (fn (fn (fn (fn (fn (fn (fn (fn (fn (fn (fn (fn (fn (fn (fn (fn (fn (fn (fn (fn (fn (fn (fn (fn (fn (fn (fn (fn (fn (fn (fn (fn (fn (fn (fn (fn (fn (fn (fn (fn (fn (fn f0))))))))))))))))))))))))))))))))))))))))))))))))))))))))))))))))))))))))))))))))))))))))))))))), rfl, Nat.zero_le _, rfl, H14⟩
 rintro nQ lQ w15 ⟨q, z, cs, rfl, hfit, rfl, hq, hlq, H15⟩
 obtain ⟨j, rfl⟩ := hfit.open
 refine cR e95 ?_
 clear hfit
 have hrd := H15.rd (i := 0) (xs := qs.flatten) (sp := spc) rfl (by rw [hGc.2.2.2.len, hql]) (by decide : 0 < 16)
 refine J1<|Rq<|Xm rfl<|Xm rfl<|Xm rfl<|OV (EI Tryz.underlying22 ty45 rfl rfl rfl hil rfl)<|cOp e95<|OV (ex_fieldAddrA fl45_3 rfl)<|OV (ex_fieldAddrB fl39_2 rfl)<|OV (EL ty37 rfl ((hrd.elem hGc.2.2.2 hp1) 7 _ rfl))<|OV (ES Tryz.underlying37 rfl)<|cOp e95<|OT (ex_lss rfl rfl) (fun hp62 => ?_) (fun hp62 => ?_)
 have hvb := hv1.1
 have hqv : q < nt.vote.val.length := by omega
 obtain ⟨ku, rfl⟩ := hscs0 (by omega)
 refine Xr e95<|J3 rfl<|J6<|J1<|J7<|J2<|Xm rfl<|Xm rfl<|OV (EI Tryz.underlying22 ty45 rfl rfl rfl hil rfl)<|OV (ex_fieldAddrA fl45_3 rfl)<|cOp e95<|OV (ex_fieldAddrB fl39_2 rfl)<|OV (EL ty37 rfl ((hrd.elem hGc.2.2.2 hp1) 7 _ rfl))<|Xm rfl<|OV (ex_idxN Tryz.underlying37 ty5 rfl rfl rfl hqv)<|cOp e95<|OW ty5 H15 3 rfl rfl rfl rfl (by omega) rfl<|fun w16 H16=>Xr e95<|run_nil (blk_normal ?_)
 refine J2<|Xm rfl<|OV (ex_add rfl rfl (IntWalk.i64_in _ (by omega)))<|Xa rfl<|Xr e95<|run_nil (rnd_normal ?_)
 exact ⟨nt.vote.val.length - (q + 1), by omega, q + 1, _, _, rfl, (fs (fn (fn (fs (fs (fn (fs (fn (fs (fs (fn (fn (fn (fn (fn (fn (fn (fn (fn (fn (fn (fn (fn (fn (fn (fn (fn (fn (fn (fn (fn (fn (fn (fn (fn (fn (fn (fn (fn (fn (fn (fn (fn (fn (fn (fn (fn (fn (fn (fn (fn (fn (fn (fn (fn (fn (fn (fn (fn (fn (fn (fn (fn (fn (fn (fn (fn (fn (fn (fn (fn (fn (fn (fn (fn (fn (fn (fn (fn (fn (fn (fn (fn (fn (fn (fn (fn (fn (fn (fn (fn (fn (fn (fn (fn f0))))))))))))))))))))))))))))))))))))))))))))))))))))))))))))))))))))))))))))))))))))))))))))))), by omega, by omega, by rw [List.length_set]; exact hlq, H16⟩
 refine Xr e95<|J4 rfl<|J8<|rnd_exit<|blk_exit<|Rq<|Xa rfl ?_
 have hA2 := ntx_next (R := [((some gk, 45, qs.flatten ++ spc) : Ent), (some g4, 27, [.slice X1 b.groups.length x1, .slice X2 b.rights.length x2, .slice X3 b.last.length x3]), (some g6, 27, [.slice Y1 b.groups.length y1, .slice Y2 b.rights.length y2, .slice Y3 b.last.length y3])]) hNX H15 HK hlq (by omega) hnK
 have hv3 := wtb_next (R := [((some gk, 45, qs.flatten ++ spc) : Ent), (some g4, 27, [.slice X1 b.groups.length x1, .slice X2 b.rights.length x2, .slice X3 b.last.length x3]), (some g6, 27, [.slice Y1 b.groups.length y1, .slice Y2 b.rights.length y2, .slice Y3 b.last.length y3])]) hv2 H15 HK hlq (by omega) hnK
 have HO2 := (HK.all H15).pick [0, 1, 2] (by decide)
 clear hlq
 obtain ⟨cs2, hlcs2, HK2, hscs2⟩ := hv3.row HO2 (by rw [← hBe]; exact hnKS)
 have HI2 := HK2.here
 have hzcs2 := HK2.size
 replace H15 := HI2
 refine Xr e95<|J7<|run_loop (fun nQ lQ w => ∃ (q : Nat) (z : Int) (cs : List Value), nt.entry.val.length - q = nQ ∧ Fits [some (.slice A l.length k), none, none, some (.slice (hd (some gk)) l.length cc), some (.pointer (some ⟨g4, 0, none⟩)), none, some (.pointer (some ⟨g6, 0, none⟩)), none, some (.int .i64 (i : Int)), none, some (.int .i64 z), none, none, none, none, none, none, none, none, none, none, none, none, none, none, none, none, none, none, none, none, none, none, none, none, none, none, none, none, none, none, none, none, none, none, none, none, none, none, none, none, none, none, none, none, none, none, none, none, none, none, none, none, none, none, none, none, none, none, none, none, none, none, none, none, none, none, none, none, none, none, none, none, none, none, none, none, none, none, none, none, none, none, none, none] lQ ∧ z = (q : Int) ∧ q ≤ nt.entry.val.length ∧ cs.length = cs2.length ∧ Hp w15 w (bl ([((some gk, 45, qs.flatten ++ spc) : Ent), (some g4, 27, [.slice X1 b.groups.length x1, .slice X2 b.rights.length x2, .slice X3 b.last.length x3]), (some g6, 27, [.slice Y1 b.groups.length y1, .slice Y2 b.rights.length y2, .slice Y3 b.last.length y3])] ++ [(u2, 5, cs2)])) ([((some gk, 45, qs.flatten ++ spc) : Ent), (some g4, 27, [.slice X1 b.groups.length x1, .slice X2 b.rights.length x2, .slice X3 b.last.length x3]), (some g6, 27, [.slice Y1 b.groups.length y1, .slice Y2 b.rights.length y2, .slice Y3 b.last.length y3])] ++ [(u2, 5, cs)])) (nt.entry.val.length) ?_ ?_
 exact ⟨0, _, cs2, rfl, (fs (fn (fn (fs (fs (fn (fs (fn (fs (fn (fs (fn (fn (fn (fn (fn (fn (fn (fn (fn (fn (fn (fn (fn (fn (fn (fn (fn (fn (fn (fn (fn (fn (fn (fn (fn (fn (fn (fn (fn (fn (fn (fn (fn (fn (fn (fn (fn (fn (fn (fn (fn (fn (fn (fn (fn (fn (fn (fn (fn (fn (fn (fn (fn (fn (fn (fn (fn (fn (fn (fn (fn (fn (fn (fn (fn (fn (fn (fn (fn (fn (fn (fn (fn (fn (fn (fn (fn (fn (fn (fn (fn (fn (fn (fn f0))))))))))))))))))))))))))))))))))))))))))))))))))))))))))))))))))))))))))))))))))))))))))))))), rfl, Nat.zero_le _, rfl, H15⟩
 rintro nQ lQ w16 ⟨q, z, cs, rfl, hfit, rfl, hq, hlq, H16⟩
 obtain ⟨j, rfl⟩ := hfit.open
 refine cR e95 ?_
 clear hfit
 have hrd := H16.rd (i := 0) (xs := qs.flatten) (sp := spc) rfl (by rw [hGc.2.2.2.len, hql]) (by decide : 0 < 16)
 refine J1<|Rq<|Xm rfl<|Xm rfl<|Xm rfl<|OV (EI Tryz.underlying22 ty45 rfl rfl rfl hil rfl)<|cOp e95<|OV (ex_fieldAddrA fl45_4 rfl)<|OV (ex_fieldAddrB fl41_1 rfl)<|OV (EL ty37 rfl ((hrd.elem hGc.2.2.2 hp1) 9 _ rfl))<|OV (ES Tryz.underlying37 rfl)<|cOp e95<|OT (ex_lss rfl rfl) (fun hp81 => ?_) (fun hp81 => ?_)
 have hvb := hv3.1
 have hqv : q < nt.entry.val.length := by omega
 obtain ⟨ku, rfl⟩ := hscs2 (by omega)
 refine Xr e95<|J3 rfl<|J6<|J1<|J7<|J2<|Xm rfl<|Xm rfl<|OV (EI Tryz.underlying22 ty45 rfl rfl rfl hil rfl)<|OV (ex_fieldAddrA fl45_4 rfl)<|cOp e95<|OV (ex_fieldAddrB fl41_1 rfl)<|OV (EL ty37 rfl ((hrd.elem hGc.2.2.2 hp1) 9 _ rfl))<|Xm rfl<|OV (ex_idxN Tryz.underlying37 ty5 rfl rfl rfl hqv)<|cOp e95<|OW ty5 H16 3 rfl rfl rfl rfl (by omega) rfl<|fun w17 H17=>Xr e95<|run_nil (blk_normal ?_)
 refine J2<|Xm rfl<|OV (ex_add rfl rfl (IntWalk.i64_in _ (by omega)))<|Xa rfl<|Xr e95<|run_nil (rnd_normal ?_)
 exact ⟨nt.entry.val.length - (q + 1), by omega, q + 1, _, _, rfl, (fs (fn (fn (fs (fs (fn (fs (fn (fs (fn (fs (fn (fn (fn (fn (fn (fn (fn (fn (fn (fn (fn (fn (fn (fn (fn (fn (fn (fn (fn (fn (fn (fn (fn (fn (fn (fn (fn (fn (fn (fn (fn (fn (fn (fn (fn (fn (fn (fn (fn (fn (fn (fn (fn (fn (fn (fn (fn (fn (fn (fn (fn (fn (fn (fn (fn (fn (fn (fn (fn (fn (fn (fn (fn (fn (fn (fn (fn (fn (fn (fn (fn (fn (fn (fn (fn (fn (fn (fn (fn (fn (fn (fn (fn (fn f0))))))))))))))))))))))))))))))))))))))))))))))))))))))))))))))))))))))))))))))))))))))))))))))), by omega, by omega, by rw [List.length_set]; exact hlq, H17⟩
 refine Xr e95<|J4 rfl<|J8<|rnd_exit<|blk_exit<|run_nil (blk_normal ?_)
 refine J2<|Xm rfl<|OV (ex_add rfl rfl (IntWalk.i64_in _ (by omega)))<|Xa rfl<|Xr e95<|run_nil (rnd_normal ?_)
 have hA3 := ntx_next (R := [((some gk, 45, qs.flatten ++ spc) : Ent), (some g4, 27, [.slice X1 b.groups.length x1, .slice X2 b.rights.length x2, .slice X3 b.last.length x3]), (some g6, 27, [.slice Y1 b.groups.length y1, .slice Y2 b.rights.length y2, .slice Y3 b.last.length y3])]) hA2 H16 HK2 hlq (by omega) hnK
 exact ⟨l.length - (i + 1), by omega, i + 1, _, rfl, (fs (fn (fn (fs (fs (fn (fs (fn (fs (fn (fn (fn (fn (fn (fn (fn (fn (fn (fn (fn (fn (fn (fn (fn (fn (fn (fn (fn (fn (fn (fn (fn (fn (fn (fn (fn (fn (fn (fn (fn (fn (fn (fn (fn (fn (fn (fn (fn (fn (fn (fn (fn (fn (fn (fn (fn (fn (fn (fn (fn (fn (fn (fn (fn (fn (fn (fn (fn (fn (fn (fn (fn (fn (fn (fn (fn (fn (fn (fn (fn (fn (fn (fn (fn (fn (fn (fn (fn (fn (fn (fn (fn (fn (fn (fn f0))))))))))))))))))))))))))))))))))))))))))))))))))))))))))))))))))))))))))))))))))))))))))))))), by omega, by omega, hA3, (HK2.all H16).pick [0, 1, 2] (by decide)⟩
 refine Xr e95<|J4 rfl<|J8<|rnd_exit<|blk_exit<|Rq<|OV (EN ty27 rfl (vs := [.slice X1 b.groups.length x1, .slice X2 b.rights.length x2, .slice X3 b.last.length x3]) rfl (H14.cellsR (i := 1) rfl rfl))<|OV (EN ty27 rfl (vs := [.slice Y1 b.groups.length y1, .slice Y2 b.rights.length y2, .slice Y3 b.last.length y3]) rfl (H14.cellsR (i := 2) rfl rfl)) ?_
 have hSS : ∀ x, x ∈ (ups n0 n1 ++ [g4, g6]) → n0 ≤ x ∧ (x < n1 ∨ x = g4 ∨ x = g6) := fun x hx => by
   rcases List.mem_append.1 hx with h | h
   · have := mem_ups.1 h; omega
   · have : x = g4 ∨ x = g6 := by simpa using h
     omega
 obtain ⟨_, hx1, hx2, hx3⟩ := (hb6.to (ok' := fun _ => True) H14 fun x hx hlt => ⟨fun hm => by have := hSS x hm; omega, trivial⟩).of3
 obtain ⟨_, hy1, hy2, hy3⟩ := (hw6.to (ok' := fun _ => True) H14 fun x hx hlt => ⟨fun hm => by have := hSS x hm; omega, trivial⟩).of3
 refine OC (EC gf13 rfl) (same_bo b X1 x1 X2 x2 X3 x3 Y1 y1 Y2 y2 Y3 y3 _ _ _ hx1 hx2 hx3 hy1 hy2 hy3 hz.1 hz.2.1 hz.2.2.1 hz.2.2.2)<|fun w15 Hd=>have H15:=H14.callN Hd;Xa rfl<|Xr e95<|J5<|FN1 rfl rfl<|⟨rfl, HE.after H15 fun k hk => .inr (by have := hSS k hk; omega)⟩
end Go.Proofs.YtbninklfoogmdaaGreat
