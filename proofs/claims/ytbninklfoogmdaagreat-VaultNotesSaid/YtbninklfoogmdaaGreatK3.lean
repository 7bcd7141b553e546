/-
  Parts of the walk, one behind the other.
-/
import Derived.Test.YtbninklfoogmdaaGreatK2
/- Walks of layer 2, printed by wip/gen/codec.py. -/
namespace Go.Proofs.YtbninklfoogmdaaGreat
open Go Go.RowKit
set_option linter.unusedVariables false
attribute [local irreducible] Still Ops Does Cd
set_option maxRecDepth 100000 in
set_option maxHeartbeats 32000000 in
theorem notes_v (b : Bo) (A1 : Option Addr) (k1 : Nat) (A2 : Option Addr) (k2 : Nat) (A3 : Option Addr) (k3 : Nat) (N : Nat) (ok : Nat → Prop) (w0 : World) (hb1 : Sl (SvR w0 ok) 6 w0 ok A1 b.groups) (hb2 : Sl RtR 4 w0 ok A2 b.rights) (hb3 : Sl MkR 7 w0 ok A3 b.last) (hg : Good b N) (hN : N ≤ 900000000000) (hnn : b.notes.length ≤ 1200000000000) : Does Tryz.prog 17 #[.agg [.slice A1 b.groups.length k1, .slice A2 b.rights.length k2, .slice A3 b.last.length k3].toArray] w0 (fun r w' => ∃ A k, r = .slice A b.notes.length k ∧ Sl (NtR w' (fun x => w0.heap.size ≤ x)) 16 w' (fun x => w0.heap.size ≤ x) A b.notes ∧ Hp w0 w' [] []) := by
 refine does_of Tryz.func17 Tryz.ntmps17 rfl<|cR e89 ?_
 have H := Hp.refl w0
 refine Rq<|ops_box rfl rfl H<|fun w1 gb H1 _=>Xa rfl<|Xr e89<|Rq<|Xa rfl<|Xr e89<|Rq<|OV (EN ty27 rfl (vs := [.slice A1 b.groups.length k1, .slice A2 b.rights.length k2, .slice A3 b.last.length k3]) rfl (H1.cellsR (i := 0) rfl rfl)) ?_
 obtain ⟨n1, hn1⟩ : ∃ n, n = w1.heap.size := ⟨_, rfl⟩
 have hgb := H1.lt (i := 0) rfl
 have hgb0 := H1.new (i := 0) rfl
 have hsz0 := H1.size
 refine OQ (EC gf33 rfl) (copied_v b A1 k1 A2 k2 A3 k3 N ok _ (hb1.toS H1 k0) (hb2.toR H1 k0) (hb3.toM H1 k0) hg hN) ?_
 rintro _ w2 ⟨_, rfl, ⟨B1, j1, B2, j2, B3, j3, rfl, hc1, hc2, hc3⟩, Hd⟩
 have HC := H1.callN Hd
 obtain ⟨n2, hn2⟩ : ∃ n, n = w2.heap.size := ⟨_, rfl⟩
 have H2 := HC.here
 refine OS ty27 H2 0 (vs := [.slice B1 b.groups.length j1, .slice B2 b.rights.length j2, .slice B3 b.last.length j3]) rfl rfl rfl rfl rfl (Nat.le_refl 3) rfl<|fun w3 H3=>Xr e89<|J1<|Rq ?_
 have hz8 := hg.eight
 have HSz := H3.size
 have HS := HC.all H3
 have hk9 : ∀ (T : TypeId) (cs : List Value) (x : Nat), n1 ≤ x → x ∉ bl [((some gb, T, cs) : Ent)] := fun T cs x hx hb => by
   have : gb = x := by simpa using bl_one hb
   omega
 have hd1 := hc1.toS (ok' := (fun x => n1 ≤ x ∧ x < n2)) H3 fun x hx hl => ⟨hk9 _ _ x (by omega), by omega, by omega⟩
 have hd2 := hc2.toR (ok' := (fun x => n1 ≤ x ∧ x < n2)) H3 fun x hx hl => ⟨hk9 _ _ x (by omega), by omega, by omega⟩
 obtain ⟨ps, hp, hr, ha, h2⟩ := id hd1
 obtain ⟨pr, hpr, hrr, har, h2r⟩ := id hd2
 obtain ⟨a1, rfl⟩ := hr.some_ (by omega)
 replace H3 := HS.here
 have hsS := HS.size
 have hsS2 : n2 ≤ w3.heap.size := by rw [hn2]; exact HSz
 have hkS : ∀ x, (fun x => n1 ≤ x ∧ x < n2) x → x < w3.heap.size → x ∉ bl [((some gb, 27, [.slice (some a1) b.groups.length j1, .slice B2 b.rights.length j2, .slice B3 b.last.length j3]) : Ent)] ∧ (fun x => n1 ≤ x ∧ x < n2) x := fun x hx _ => ⟨hk9 _ _ x hx.1, hx⟩
 refine Xf fl27_0 rfl<|OV (EL ty23 rfl (H3.cell (i := 0) rfl rfl))<|OV (ES Tryz.underlying23 rfl)<|Xm rfl<|Xr e89<|J7<|run_loop (fun nQ lQ w => ∃ (i : Nat) (y : Int) (g : Option Nat) (cap : Nat) (qs : List (List Value)) (sp : List Value), b.groups.length - i = nQ ∧ Fits [none, some (.pointer (some ⟨gb, 0, none⟩)), none, some (.slice (hd g) qs.length cap), none, none, none, none, none, none, none, none, none, none, none, some (.slice (some a1) b.groups.length j1), some (.int .i64 (b.groups.length : Int)), some (.int .i64 y), none, none, none, none, none, none, none, none, none, none, none, none, none, none, none, none, none, none, none, none, none, none, none, none, none, none, none, none, none, none, none, none, none, none, none, none, none, none, none, none, none, none, none, none, none, none, none, none, none, none, none, none, none, none, none, none, none, none, none, none, none, none, none, none, none, none, none, none, none, none, none] lQ ∧ y = (i : Int) ∧ i ≤ b.groups.length ∧ Gw 16 g cap qs sp ∧ All2 (NtR w3 (fun x => n1 ≤ x ∧ x < n2)) qs (gN (b.groups.take i)) ∧ Hp w3 w (bl [((some gb, 27, [.slice (some a1) b.groups.length j1, .slice B2 b.rights.length j2, .slice B3 b.last.length j3]) : Ent)]) [((some gb, 27, [.slice (some a1) b.groups.length j1, .slice B2 b.rights.length j2, .slice B3 b.last.length j3]) : Ent), (g, 45, qs.flatten ++ sp)]) (b.groups.length) ?_ ?_
 exact ⟨0, _, none, 0, [], [], rfl, (fn (fs (fn (fs (fn (fn (fn (fn (fn (fn (fn (fn (fn (fn (fn (fs (fs (fs (fn (fn (fn (fn (fn (fn (fn (fn (fn (fn (fn (fn (fn (fn (fn (fn (fn (fn (fn (fn (fn (fn (fn (fn (fn (fn (fn (fn (fn (fn (fn (fn (fn (fn (fn (fn (fn (fn (fn (fn (fn (fn (fn (fn (fn (fn (fn (fn (fn (fn (fn (fn (fn (fn (fn (fn (fn (fn (fn (fn (fn (fn (fn (fn (fn (fn (fn (fn (fn (fn (fn f0))))))))))))))))))))))))))))))))))))))))))))))))))))))))))))))))))))))))))))))))))))))))), rfl, Nat.zero_le _, Gw.nil 16, trivial, H3.nil 45⟩
 rintro nQ lQ w4 ⟨i, y, g, cap, qs, sp, rfl, hfit, rfl, hi, hG, hA, H4⟩
 obtain ⟨j, rfl⟩ := hfit.open
 refine cR e89 ?_
 clear hfit
 refine Rq<|OT (ex_lss rfl rfl) (fun hp18 => ?_) (fun hp18 => ?_)
 have hil : i < b.groups.length := by omega
 obtain ⟨s, hx⟩ := get_of hil
 obtain ⟨p1, hp1, hR⟩ := h2.get hx
 obtain ⟨D1, e1, D2, e2, D3, e3, rfl, hv, hm, he⟩ := hR
 obtain ⟨R, hRr⟩ := gN_at hx
 have hnl : b.notes.length = (gN (b.groups.take i)).length + (imgs i s).length + s.entries.length + (prms i s).length + s.votes.length + R.length + b.rights.length := by
   unfold Bo.notes
   rw [hRr]
   unfold svN
   simp only [List.length_append, List.length_map]
   omega
 obtain ⟨vs, hpv, hrv, hav, h2v⟩ := id hv
 obtain ⟨en, hpe, hre, hae, h2e⟩ := id he
 have hql := hA.len
 try simp only [List.length_append, List.length_map, List.length_take] at hql
 refine Xr e89<|J1<|J3 rfl<|J6<|J1<|J7<|Rq<|Xm rfl<|OV (EI Tryz.underlying23 ty57 rfl rfl rfl hil rfl)<|OV (EN ty57 rfl (vs := [.int .i64 s.p.r, .int .i64 s.p.n, .slice D1 s.votes.length e1, .int .i64 s.index, .slice D2 s.image.length e2, .slice D3 s.entries.length e3]) rfl (((hr.move (by decide) ha H4 hkS).1).elem hp hp1))<|OA ty57 H4<|fun w5 g5 H5 _=>cOp e89<|Xa rfl<|OS ty57 H5 2 (vs := [.int .i64 s.p.r, .int .i64 s.p.n, .slice D1 s.votes.length e1, .int .i64 s.index, .slice D2 s.image.length e2, .slice D3 s.entries.length e3]) rfl rfl rfl rfl rfl (Nat.le_refl 6) rfl<|fun w6 H6=>Xr e89<|J1<|Rq<|Xf fl57_2 rfl<|OV (EL ty3 rfl (H6.cell (i := 2) rfl rfl))<|OT (ex_neq rfl rfl) (fun hp24 => ?_) (fun hp24 => ?_)
 have him : imgs i s = [ntI i s] := if_pos hp24
 have hil1 : (imgs i s).length = 1 := by rw [him]; rfl
 refine Xr e89<|J3 rfl<|J2<|Xm rfl<|Xm rfl<|Xf fl57_2 rfl<|OV (EL ty3 rfl (H6.cell (i := 2) rfl rfl))<|cOp e89<|Xf fl57_3 rfl<|OV (EL ty37 rfl (H6.cell (i := 2) rfl rfl))<|OV (EB ty41 pl41 rfl rfl)<|OV (EB ty45 pl45 rfl (cs := [.int .i64 4, .int .i64 (i : Int), .int .i64 0, .int .i64 0, .int .i64 0, .int .i64 0, .int .i64 0, .slice none 0 0, .int .i64 s.index, .slice D2 s.image.length e2, .int .i64 0, strV [], .int .i64 0, .int .i64 0, .int .i64 0, .int .i64 0]) (by kernel_rfl))<|cOp e89<|ops_buildSlice Tryz.underlying22 ty45 H6 (cs := [.int .i64 4, .int .i64 (i : Int), .int .i64 0, .int .i64 0, .int .i64 0, .int .i64 0, .int .i64 0, .slice none 0 0, .int .i64 s.index, .slice D2 s.image.length e2, .int .i64 0, strV [], .int .i64 0, .int .i64 0, .int .i64 0, .int .i64 0]) rfl (by decide) (by kernel_rfl)<|fun w7 gk H7 _=>ops_grow Tryz.underlying22 ty45 (by decide) H7 1 hG rfl rfl (rs := [[.int .i64 4, .int .i64 (i : Int), .int .i64 0, .int .i64 0, .int .i64 0, .int .i64 0, .int .i64 0, .slice none 0 0, .int .i64 s.index, .slice D2 s.image.length e2, .int .i64 0, strV [], .int .i64 0, .int .i64 0, .int .i64 0, .int .i64 0]]) (m := 1) rfl rfl (H7.rd (i := 3) (o := some _) (xs := [.int .i64 4, .int .i64 (i : Int), .int .i64 0, .int .i64 0, .int .i64 0, .int .i64 0, .int .i64 0, .slice none 0 0, .int .i64 s.index, .slice D2 s.image.length e2, .int .i64 0, strV [], .int .i64 0, .int .i64 0, .int .i64 0, .int .i64 0]) (sp := []) rfl rfl (by decide)) (Pl.one rfl) (fun p hp => by rw [List.mem_singleton.1 hp]; rfl) (by omega) (by omega) (by decide)<|fun w8 g cap sp H8 hG=>?_
 obtain ⟨qs, hqn⟩ : ∃ q, q = qs ++ [[.int .i64 4, .int .i64 (i : Int), .int .i64 0, .int .i64 0, .int .i64 0, .int .i64 0, .int .i64 0, .slice none 0 0, .int .i64 s.index, .slice D2 s.image.length e2, .int .i64 0, strV [], .int .i64 0, .int .i64 0, .int .i64 0, .int .i64 0]] := ⟨_, rfl⟩
 rw [← hqn] at hG H8 ⊢
 replace hA : All2 (NtR w3 (fun x => n1 ≤ x ∧ x < n2)) qs (gN (b.groups.take i) ++ imgs i s) := by
   rw [hqn, him]
   exact hA.app (All2.one ⟨none, 0, D2, e2, rfl, Bs.none _ _, hm⟩)
 clear hqn
 refine Xa rfl<|Xr e89<|J1<|Rq<|Xf fl57_4 rfl<|OV (EL ty55 rfl (H8.cell (i := 2) rfl rfl))<|OV (ES Tryz.underlying55 rfl)<|Xm rfl<|Xr e89<|J7<|run_loop (fun nQ lQ w => ∃ (q : Nat) (z : Int) (g : Option Nat) (cap : Nat) (qs : List (List Value)) (sp : List Value), s.entries.length - q = nQ ∧ Fits [none, some (.pointer (some ⟨gb, 0, none⟩)), none, some (.slice (hd g) qs.length cap), some (.int .i64 (i : Int)), some (.pointer (some ⟨g5, 0, none⟩)), none, none, none, none, none, none, none, none, none, some (.slice (some a1) b.groups.length j1), some (.int .i64 (b.groups.length : Int)), some (.int .i64 (i : Int)), none, none, none, none, none, none, none, none, none, none, none, none, none, none, none, none, none, none, some (.slice D3 s.entries.length e3), some (.int .i64 (s.entries.length : Int)), some (.int .i64 z), none, none, none, none, none, none, none, none, none, none, none, none, none, none, none, none, none, none, none, none, none, none, none, none, none, none, none, none, none, none, none, none, none, none, none, none, none, none, none, none, none, none, none, none, none, none, none, none, none, none] lQ ∧ z = (q : Int) ∧ q ≤ s.entries.length ∧ Gw 16 g cap qs sp ∧ All2 (NtR w3 (fun x => n1 ≤ x ∧ x < n2)) qs (gN (b.groups.take i) ++ imgs i s ++ (s.entries.take q).map (ntE i)) ∧ Hp w3 w (bl [((some gb, 27, [.slice (some a1) b.groups.length j1, .slice B2 b.rights.length j2, .slice B3 b.last.length j3]) : Ent)]) [((some gb, 27, [.slice (some a1) b.groups.length j1, .slice B2 b.rights.length j2, .slice B3 b.last.length j3]) : Ent), (g, 45, qs.flatten ++ sp), (some g5, 57, [.int .i64 s.p.r, .int .i64 s.p.n, .slice D1 s.votes.length e1, .int .i64 s.index, .slice D2 s.image.length e2, .slice D3 s.entries.length e3])]) (s.entries.length) ?_ ?_
 exact ⟨0, _, g, cap, qs, sp, rfl, (fn (fs (fn (fs (fs (fs (fn (fn (fn (fn (fn (fn (fn (fn (fn (fs (fs (fs (fn (fn (fn (fn (fn (fn (fn (fn (fn (fn (fn (fn (fn (fn (fn (fn (fn (fn (fs (fs (fs (fn (fn (fn (fn (fn (fn (fn (fn (fn (fn (fn (fn (fn (fn (fn (fn (fn (fn (fn (fn (fn (fn (fn (fn (fn (fn (fn (fn (fn (fn (fn (fn (fn (fn (fn (fn (fn (fn (fn (fn (fn (fn (fn (fn (fn (fn (fn (fn (fn (fn f0))))))))))))))))))))))))))))))))))))))))))))))))))))))))))))))))))))))))))))))))))))))))), rfl, Nat.zero_le _, hG, by simpa using hA, H8.pick [0, 1, 2] (by decide)⟩
 rintro nQ lQ w9 ⟨q, z, g, cap, qs, sp, rfl, hfit, rfl, hqi, hG, hA, H9⟩
 obtain ⟨j, rfl⟩ := hfit.open
 refine cR e89 ?_
 clear hfit
 refine Rq<|OT (ex_lss rfl rfl) (fun hp39 => ?_) (fun hp39 => ?_)
 have hqv : q < s.entries.length := by omega
 obtain ⟨v, hxv⟩ := get_of hqv
 obtain ⟨pv, hpv1, hRv⟩ := h2e.get hxv
 obtain ⟨G1, f1, rfl, hbv⟩ := hRv
 obtain ⟨a3, ha3⟩ := hre.some_ (by omega)
 subst ha3
 have hql := hA.len
 try simp only [List.length_append, List.length_map, List.length_take] at hql
 refine Xr e89<|J1<|J3 rfl<|J6<|J1<|J7<|Rq<|OV (EI Tryz.underlying55 ty41 rfl rfl rfl hqv rfl)<|OV (EN ty41 rfl (vs := [.int .i64 v.slot, .slice G1 v.val.length f1]) rfl (((hre.move (by decide) hae H9 hkS).1).elem hpe hpv1))<|OA ty41 H9<|fun w10 g7 H10 _=>OS ty41 H10 3 (vs := [.int .i64 v.slot, .slice G1 v.val.length f1]) rfl rfl rfl rfl rfl (Nat.le_refl 2) rfl<|fun w11 H11=>Xr e89<|J2<|Xm rfl<|Xm rfl<|OV (EN ty41 rfl (vs := [.int .i64 v.slot, .slice G1 v.val.length f1]) rfl (H11.cellsR (i := 3) rfl rfl))<|OV (EB ty45 pl45 rfl (cs := [.int .i64 3, .int .i64 (i : Int), .int .i64 0, .int .i64 0, .int .i64 0, .int .i64 0, .int .i64 0, .slice none 0 0, .int .i64 v.slot, .slice G1 v.val.length f1, .int .i64 0, strV [], .int .i64 0, .int .i64 0, .int .i64 0, .int .i64 0]) (by kernel_rfl))<|cOp e89<|ops_buildSlice Tryz.underlying22 ty45 H11 (cs := [.int .i64 3, .int .i64 (i : Int), .int .i64 0, .int .i64 0, .int .i64 0, .int .i64 0, .int .i64 0, .slice none 0 0, .int .i64 v.slot, .slice G1 v.val.length f1, .int .i64 0, strV [], .int .i64 0, .int .i64 0, .int .i64 0, .int .i64 0]) rfl (by decide) (by kernel_rfl)<|fun w12 gk H12 _=>ops_grow Tryz.underlying22 ty45 (by decide) H12 1 hG rfl rfl (rs := [[.int .i64 3, .int .i64 (i : Int), .int .i64 0, .int .i64 0, .int .i64 0, .int .i64 0, .int .i64 0, .slice none 0 0, .int .i64 v.slot, .slice G1 v.val.length f1, .int .i64 0, strV [], .int .i64 0, .int .i64 0, .int .i64 0, .int .i64 0]]) (m := 1) rfl rfl (H12.rd (i := 4) (o := some _) (xs := [.int .i64 3, .int .i64 (i : Int), .int .i64 0, .int .i64 0, .int .i64 0, .int .i64 0, .int .i64 0, .slice none 0 0, .int .i64 v.slot, .slice G1 v.val.length f1, .int .i64 0, strV [], .int .i64 0, .int .i64 0, .int .i64 0, .int .i64 0]) (sp := []) rfl rfl (by decide)) (Pl.one rfl) (fun p hp => by rw [List.mem_singleton.1 hp]; rfl) (by omega) (by omega) (by decide)<|fun w13 g cap sp H13 hG=>Xa rfl<|Xr e89<|run_nil (blk_normal ?_)
 refine J2<|OV (ex_add rfl rfl (IntWalk.i64_in _ (by omega)))<|Xm rfl<|Xr e89<|run_nil (rnd_normal ?_)
 exact ⟨s.entries.length - (q + 1), by omega, q + 1, _, g, cap, _, sp, rfl, (fn (fs (fn (fs (fs (fs (fn (fn (fn (fn (fn (fn (fn (fn (fn (fs (fs (fs (fn (fn (fn (fn (fn (fn (fn (fn (fn (fn (fn (fn (fn (fn (fn (fn (fn (fn (fs (fs (fs (fn (fn (fn (fn (fn (fn (fn (fn (fn (fn (fn (fn (fn (fn (fn (fn (fn (fn (fn (fn (fn (fn (fn (fn (fn (fn (fn (fn (fn (fn (fn (fn (fn (fn (fn (fn (fn (fn (fn (fn (fn (fn (fn (fn (fn (fn (fn (fn (fn (fn f0))))))))))))))))))))))))))))))))))))))))))))))))))))))))))))))))))))))))))))))))))))))))), by omega, by omega, hG, by rw [take_snoc hxv, List.map_append, ← List.append_assoc]; exact hA.app (All2.one ⟨none, 0, _, _, rfl, Bs.none _ _, hbv⟩), H13.pick [0, 1, 2] (by decide)⟩
 obtain rfl : q = s.entries.length := by omega
 rw [List.take_length] at hA
 refine Xr e89<|J1<|J4 rfl<|J8<|rnd_exit<|blk_exit<|J1<|Rq<|Xf fl57_0 rfl<|OV (EN ty36 rfl (vs := [.int .i64 s.p.r, .int .i64 s.p.n]) rfl (H9.cellsR (i := 2) rfl rfl))<|OV (EB ty36 pl36 rfl rfl)<|OT (ex_neq_bal rfl rfl) (fun hp52 => ?_) (fun hp52 => ?_)
 have hpm : prms i s = [ntP i s.p] := if_pos hp52
 have hil2 : (prms i s).length = 1 := by rw [hpm]; rfl
 have hql := hA.len
 try simp only [List.length_append, List.length_map, List.length_take] at hql
 refine Xr e89<|J3 rfl<|J2<|Xm rfl<|Xm rfl<|Xf fl57_0 rfl<|OV (EN ty36 rfl (vs := [.int .i64 s.p.r, .int .i64 s.p.n]) rfl (H9.cellsR (i := 2) rfl rfl))<|cOp e89<|OV (EB ty45 pl45 rfl (cs := [.int .i64 1, .int .i64 (i : Int), .int .i64 s.p.r, .int .i64 s.p.n, .int .i64 0, .int .i64 0, .int .i64 0, .slice none 0 0, .int .i64 0, .slice none 0 0, .int .i64 0, strV [], .int .i64 0, .int .i64 0, .int .i64 0, .int .i64 0]) (by kernel_rfl))<|ops_buildSlice Tryz.underlying22 ty45 H9 (cs := [.int .i64 1, .int .i64 (i : Int), .int .i64 s.p.r, .int .i64 s.p.n, .int .i64 0, .int .i64 0, .int .i64 0, .slice none 0 0, .int .i64 0, .slice none 0 0, .int .i64 0, strV [], .int .i64 0, .int .i64 0, .int .i64 0, .int .i64 0]) rfl (by decide) (by kernel_rfl)<|fun w10 gk H10 _=>ops_grow Tryz.underlying22 ty45 (by decide) H10 1 hG rfl rfl (rs := [[.int .i64 1, .int .i64 (i : Int), .int .i64 s.p.r, .int .i64 s.p.n, .int .i64 0, .int .i64 0, .int .i64 0, .slice none 0 0, .int .i64 0, .slice none 0 0, .int .i64 0, strV [], .int .i64 0, .int .i64 0, .int .i64 0, .int .i64 0]]) (m := 1) rfl rfl (H10.rd (i := 3) (o := some _) (xs := [.int .i64 1, .int .i64 (i : Int), .int .i64 s.p.r, .int .i64 s.p.n, .int .i64 0, .int .i64 0, .int .i64 0, .slice none 0 0, .int .i64 0, .slice none 0 0, .int .i64 0, strV [], .int .i64 0, .int .i64 0, .int .i64 0, .int .i64 0]) (sp := []) rfl rfl (by decide)) (Pl.one rfl) (fun p hp => by rw [List.mem_singleton.1 hp]; rfl) (by omega) (by omega) (by decide)<|fun w11 g cap sp H11 hG=>?_
 obtain ⟨qs, hqn⟩ : ∃ q, q = qs ++ [[.int .i64 1, .int .i64 (i : Int), .int .i64 s.p.r, .int .i64 s.p.n, .int .i64 0, .int .i64 0, .int .i64 0, .slice none 0 0, .int .i64 0, .slice none 0 0, .int .i64 0, strV [], .int .i64 0, .int .i64 0, .int .i64 0, .int .i64 0]] := ⟨_, rfl⟩
 rw [← hqn] at hG H11 ⊢
 replace hA : All2 (NtR w3 (fun x => n1 ≤ x ∧ x < n2)) qs (gN (b.groups.take i) ++ imgs i s ++ s.entries.map (ntE i) ++ prms i s) := by
   rw [hqn, hpm]
   exact hA.app (All2.one ⟨none, 0, none, 0, rfl, Bs.none _ _, Bs.none _ _⟩)
 clear hqn
 refine Xa rfl<|Xr e89<|Rq<|Xf fl57_1 rfl<|OV (EL ty54 rfl (H11.cell (i := 2) rfl rfl))<|OV (ES Tryz.underlying54 rfl)<|Xm rfl<|Xr e89<|J7<|run_loop (fun nQ lQ w => ∃ (q : Nat) (z : Int) (g : Option Nat) (cap : Nat) (qs : List (List Value)) (sp : List Value), s.votes.length - q = nQ ∧ Fits [none, some (.pointer (some ⟨gb, 0, none⟩)), none, some (.slice (hd g) qs.length cap), some (.int .i64 (i : Int)), some (.pointer (some ⟨g5, 0, none⟩)), none, none, none, none, none, none, none, none, none, some (.slice (some a1) b.groups.length j1), some (.int .i64 (b.groups.length : Int)), some (.int .i64 (i : Int)), none, none, none, none, none, none, none, none, none, none, none, none, none, none, none, none, none, none, none, none, none, none, none, none, none, none, none, none, none, none, none, none, none, none, none, none, none, none, none, none, none, none, none, some (.slice D1 s.votes.length e1), some (.int .i64 (s.votes.length : Int)), some (.int .i64 z), none, none, none, none, none, none, none, none, none, none, none, none, none, none, none, none, none, none, none, none, none, none, none, none, none] lQ ∧ z = (q : Int) ∧ q ≤ s.votes.length ∧ Gw 16 g cap qs sp ∧ All2 (NtR w3 (fun x => n1 ≤ x ∧ x < n2)) qs (gN (b.groups.take i) ++ imgs i s ++ s.entries.map (ntE i) ++ prms i s ++ (s.votes.take q).map (ntV i)) ∧ Hp w3 w (bl [((some gb, 27, [.slice (some a1) b.groups.length j1, .slice B2 b.rights.length j2, .slice B3 b.last.length j3]) : Ent)]) [((some gb, 27, [.slice (some a1) b.groups.length j1, .slice B2 b.rights.length j2, .slice B3 b.last.length j3]) : Ent), (g, 45, qs.flatten ++ sp), (some g5, 57, [.int .i64 s.p.r, .int .i64 s.p.n, .slice D1 s.votes.length e1, .int .i64 s.index, .slice D2 s.image.length e2, .slice D3 s.entries.length e3])]) (s.votes.length) ?_ ?_
 exact ⟨0, _, g, cap, qs, sp, rfl, (fn (fs (fn (fs (fs (fs (fn (fn (fn (fn (fn (fn (fn (fn (fn (fs (fs (fs (fn (fn (fn (fn (fn (fn (fn (fn (fn (fn (fn (fn (fn (fn (fn (fn (fn (fn (fn (fn (fn (fn (fn (fn (fn (fn (fn (fn (fn (fn (fn (fn (fn (fn (fn (fn (fn (fn (fn (fn (fn (fn (fn (fs (fs (fs (fn (fn (fn (fn (fn (fn (fn (fn (fn (fn (fn (fn (fn (fn (fn (fn (fn (fn (fn (fn (fn (fn (fn (fn (fn f0))))))))))))))))))))))))))))))))))))))))))))))))))))))))))))))))))))))))))))))))))))))))), rfl, Nat.zero_le _, hG, by simpa using hA, H11.pick [0, 1, 2] (by decide)⟩
 rintro nQ lQ w12 ⟨q, z, g, cap, qs, sp, rfl, hfit, rfl, hqi, hG, hA, H12⟩
 obtain ⟨j, rfl⟩ := hfit.open
 refine cR e89 ?_
 clear hfit
 refine Rq<|OT (ex_lss rfl rfl) (fun hp64 => ?_) (fun hp64 => ?_)
 have hqv : q < s.votes.length := by omega
 obtain ⟨v, hxv⟩ := get_of hqv
 obtain ⟨pv, hpv1, hRv⟩ := h2v.get hxv
 obtain ⟨G1, f1, rfl, hbv⟩ := hRv
 obtain ⟨a3, ha3⟩ := hrv.some_ (by omega)
 subst ha3
 have hql := hA.len
 try simp only [List.length_append, List.length_map, List.length_take] at hql
 refine Xr e89<|J1<|J3 rfl<|J6<|J1<|J7<|Rq<|OV (EI Tryz.underlying54 ty39 rfl rfl rfl hqv rfl)<|OV (EN ty39 rfl (vs := [.int .i64 v.slot, .int .i64 v.b.r, .int .i64 v.b.n, .slice G1 v.val.length f1]) rfl (((hrv.move (by decide) hav H12 hkS).1).elem hpv hpv1))<|OA ty39 H12<|fun w13 g7 H13 _=>OS ty39 H13 3 (vs := [.int .i64 v.slot, .int .i64 v.b.r, .int .i64 v.b.n, .slice G1 v.val.length f1]) rfl rfl rfl rfl rfl (Nat.le_refl 4) rfl<|fun w14 H14=>Xr e89<|J2<|Xm rfl<|Xm rfl<|OV (EN ty39 rfl (vs := [.int .i64 v.slot, .int .i64 v.b.r, .int .i64 v.b.n, .slice G1 v.val.length f1]) rfl (H14.cellsR (i := 3) rfl rfl))<|OV (EB ty45 pl45 rfl (cs := [.int .i64 2, .int .i64 (i : Int), .int .i64 0, .int .i64 0, .int .i64 v.slot, .int .i64 v.b.r, .int .i64 v.b.n, .slice G1 v.val.length f1, .int .i64 0, .slice none 0 0, .int .i64 0, strV [], .int .i64 0, .int .i64 0, .int .i64 0, .int .i64 0]) (by kernel_rfl))<|cOp e89<|ops_buildSlice Tryz.underlying22 ty45 H14 (cs := [.int .i64 2, .int .i64 (i : Int), .int .i64 0, .int .i64 0, .int .i64 v.slot, .int .i64 v.b.r, .int .i64 v.b.n, .slice G1 v.val.length f1, .int .i64 0, .slice none 0 0, .int .i64 0, strV [], .int .i64 0, .int .i64 0, .int .i64 0, .int .i64 0]) rfl (by decide) (by kernel_rfl)<|fun w15 gk H15 _=>ops_grow Tryz.underlying22 ty45 (by decide) H15 1 hG rfl rfl (rs := [[.int .i64 2, .int .i64 (i : Int), .int .i64 0, .int .i64 0, .int .i64 v.slot, .int .i64 v.b.r, .int .i64 v.b.n, .slice G1 v.val.length f1, .int .i64 0, .slice none 0 0, .int .i64 0, strV [], .int .i64 0, .int .i64 0, .int .i64 0, .int .i64 0]]) (m := 1) rfl rfl (H15.rd (i := 4) (o := some _) (xs := [.int .i64 2, .int .i64 (i : Int), .int .i64 0, .int .i64 0, .int .i64 v.slot, .int .i64 v.b.r, .int .i64 v.b.n, .slice G1 v.val.length f1, .int .i64 0, .slice none 0 0, .int .i64 0, strV [], .int .i64 0, .int .i64 0, .int .i64 0, .int .i64 0]) (sp := []) rfl rfl (by decide)) (Pl.one rfl) (fun p hp => by rw [List.mem_singleton.1 hp]; rfl) (by omega) (by omega) (by decide)<|fun w16 g cap sp H16 hG=>Xa rfl<|Xr e89<|run_nil (blk_normal ?_)
 refine J2<|OV (ex_add rfl rfl (IntWalk.i64_in _ (by omega)))<|Xm rfl<|Xr e89<|run_nil (rnd_normal ?_)
 exact ⟨s.votes.length - (q + 1), by omega, q + 1, _, g, cap, _, sp, rfl, (fn (fs (fn (fs (fs (fs (fn (fn (fn (fn (fn (fn (fn (fn (fn (fs (fs (fs (fn (fn (fn (fn (fn (fn (fn (fn (fn (fn (fn (fn (fn (fn (fn (fn (fn (fn (fn (fn (fn (fn (fn (fn (fn (fn (fn (fn (fn (fn (fn (fn (fn (fn (fn (fn (fn (fn (fn (fn (fn (fn (fn (fs (fs (fs (fn (fn (fn (fn (fn (fn (fn (fn (fn (fn (fn (fn (fn (fn (fn (fn (fn (fn (fn (fn (fn (fn (fn (fn (fn f0))))))))))))))))))))))))))))))))))))))))))))))))))))))))))))))))))))))))))))))))))))))))), by omega, by omega, hG, by rw [take_snoc hxv, List.map_append, ← List.append_assoc]; exact hA.app (All2.one ⟨_, _, none, 0, rfl, hbv, Bs.none _ _⟩), H16.pick [0, 1, 2] (by decide)⟩
 obtain rfl : q = s.votes.length := by omega
 rw [List.take_length] at hA
 refine Xr e89<|J1<|J4 rfl<|J8<|rnd_exit<|blk_exit<|run_nil (blk_normal ?_)
 refine J2<|OV (ex_add rfl rfl (IntWalk.i64_in _ (by omega)))<|Xm rfl<|Xr e89<|run_nil (rnd_normal ?_)
 have hti : (b.groups.take i).length = i := by rw [List.length_take]; omega
 exact ⟨b.groups.length - (i + 1), by omega, i + 1, _, g, cap, qs, sp, rfl, (fn (fs (fn (fs (fn (fn (fn (fn (fn (fn (fn (fn (fn (fn (fn (fs (fs (fs (fn (fn (fn (fn (fn (fn (fn (fn (fn (fn (fn (fn (fn (fn (fn (fn (fn (fn (fn (fn (fn (fn (fn (fn (fn (fn (fn (fn (fn (fn (fn (fn (fn (fn (fn (fn (fn (fn (fn (fn (fn (fn (fn (fn (fn (fn (fn (fn (fn (fn (fn (fn (fn (fn (fn (fn (fn (fn (fn (fn (fn (fn (fn (fn (fn (fn (fn (fn (fn (fn (fn f0))))))))))))))))))))))))))))))))))))))))))))))))))))))))))))))))))))))))))))))))))))))))), by omega, by omega, hG, by rw [take_snoc hx, gN_snoc, hti]; unfold svN; simpa only [List.append_assoc] using hA, H12.pick [0, 1] (by decide)⟩
 have hpm : prms i s = [] := if_neg hp52
 replace hA : All2 (NtR w3 (fun x => n1 ≤ x ∧ x < n2)) qs (gN (b.groups.take i) ++ imgs i s ++ s.entries.map (ntE i) ++ prms i s) := by rw [hpm, List.append_nil]; exact hA
 refine Xr e89<|J4 rfl<|J6<|Rq<|Xf fl57_1 rfl<|OV (EL ty54 rfl (H9.cell (i := 2) rfl rfl))<|OV (ES Tryz.underlying54 rfl)<|Xm rfl<|Xr e89<|J7<|run_loop (fun nQ lQ w => ∃ (q : Nat) (z : Int) (g : Option Nat) (cap : Nat) (qs : List (List Value)) (sp : List Value), s.votes.length - q = nQ ∧ Fits [none, some (.pointer (some ⟨gb, 0, none⟩)), none, some (.slice (hd g) qs.length cap), some (.int .i64 (i : Int)), some (.pointer (some ⟨g5, 0, none⟩)), none, none, none, none, none, none, none, none, none, some (.slice (some a1) b.groups.length j1), some (.int .i64 (b.groups.length : Int)), some (.int .i64 (i : Int)), none, none, none, none, none, none, none, none, none, none, none, none, none, none, none, none, none, none, none, none, none, none, none, none, none, none, none, none, none, none, none, none, none, none, none, none, none, none, none, none, none, none, none, some (.slice D1 s.votes.length e1), some (.int .i64 (s.votes.length : Int)), some (.int .i64 z), none, none, none, none, none, none, none, none, none, none, none, none, none, none, none, none, none, none, none, none, none, none, none, none, none] lQ ∧ z = (q : Int) ∧ q ≤ s.votes.length ∧ Gw 16 g cap qs sp ∧ All2 (NtR w3 (fun x => n1 ≤ x ∧ x < n2)) qs (gN (b.groups.take i) ++ imgs i s ++ s.entries.map (ntE i) ++ prms i s ++ (s.votes.take q).map (ntV i)) ∧ Hp w3 w (bl [((some gb, 27, [.slice (some a1) b.groups.length j1, .slice B2 b.rights.length j2, .slice B3 b.last.length j3]) : Ent)]) [((some gb, 27, [.slice (some a1) b.groups.length j1, .slice B2 b.rights.length j2, .slice B3 b.last.length j3]) : Ent), (g, 45, qs.flatten ++ sp), (some g5, 57, [.int .i64 s.p.r, .int .i64 s.p.n, .slice D1 s.votes.length e1, .int .i64 s.index, .slice D2 s.image.length e2, .slice D3 s.entries.length e3])]) (s.votes.length) ?_ ?_
 exact ⟨0, _, g, cap, qs, sp, rfl, (fn (fs (fn (fs (fs (fs (fn (fn (fn (fn (fn (fn (fn (fn (fn (fs (fs (fs (fn (fn (fn (fn (fn (fn (fn (fn (fn (fn (fn (fn (fn (fn (fn (fn (fn (fn (fn (fn (fn (fn (fn (fn (fn (fn (fn (fn (fn (fn (fn (fn (fn (fn (fn (fn (fn (fn (fn (fn (fn (fn (fn (fs (fs (fs (fn (fn (fn (fn (fn (fn (fn (fn (fn (fn (fn (fn (fn (fn (fn (fn (fn (fn (fn (fn (fn (fn (fn (fn (fn f0))))))))))))))))))))))))))))))))))))))))))))))))))))))))))))))))))))))))))))))))))))))))), rfl, Nat.zero_le _, hG, by simpa using hA, H9.pick [0, 1, 2] (by decide)⟩
 rintro nQ lQ w10 ⟨q, z, g, cap, qs, sp, rfl, hfit, rfl, hqi, hG, hA, H10⟩
 obtain ⟨j, rfl⟩ := hfit.open
 refine cR e89 ?_
 clear hfit
 refine Rq<|OT (ex_lss rfl rfl) (fun hp64 => ?_) (fun hp64 => ?_)
 have hqv : q < s.votes.length := by omega
 obtain ⟨v, hxv⟩ := get_of hqv
 obtain ⟨pv, hpv1, hRv⟩ := h2v.get hxv
 obtain ⟨G1, f1, rfl, hbv⟩ := hRv
 obtain ⟨a3, ha3⟩ := hrv.some_ (by omega)
 subst ha3
 have hql := hA.len
 try simp only [List.length_append, List.length_map, List.length_take] at hql
 refine Xr e89<|J1<|J3 rfl<|J6<|J1<|J7<|Rq<|OV (EI Tryz.underlying54 ty39 rfl rfl rfl hqv rfl)<|OV (EN ty39 rfl (vs := [.int .i64 v.slot, .int .i64 v.b.r, .int .i64 v.b.n, .slice G1 v.val.length f1]) rfl (((hrv.move (by decide) hav H10 hkS).1).elem hpv hpv1))<|OA ty39 H10<|fun w11 g7 H11 _=>OS ty39 H11 3 (vs := [.int .i64 v.slot, .int .i64 v.b.r, .int .i64 v.b.n, .slice G1 v.val.length f1]) rfl rfl rfl rfl rfl (Nat.le_refl 4) rfl<|fun w12 H12=>Xr e89<|J2<|Xm rfl<|Xm rfl<|OV (EN ty39 rfl (vs := [.int .i64 v.slot, .int .i64 v.b.r, .int .i64 v.b.n, .slice G1 v.val.length f1]) rfl (H12.cellsR (i := 3) rfl rfl))<|OV (EB ty45 pl45 rfl (cs := [.int .i64 2, .int .i64 (i : Int), .int .i64 0, .int .i64 0, .int .i64 v.slot, .int .i64 v.b.r, .int .i64 v.b.n, .slice G1 v.val.length f1, .int .i64 0, .slice none 0 0, .int .i64 0, strV [], .int .i64 0, .int .i64 0, .int .i64 0, .int .i64 0]) (by kernel_rfl))<|cOp e89<|ops_buildSlice Tryz.underlying22 ty45 H12 (cs := [.int .i64 2, .int .i64 (i : Int), .int .i64 0, .int .i64 0, .int .i64 v.slot, .int .i64 v.b.r, .int .i64 v.b.n, .slice G1 v.val.length f1, .int .i64 0, .slice none 0 0, .int .i64 0, strV [], .int .i64 0, .int .i64 0, .int .i64 0, .int .i64 0]) rfl (by decide) (by kernel_rfl)<|fun w13 gk H13 _=>ops_grow Tryz.underlying22 ty45 (by decide) H13 1 hG rfl rfl (rs := [[.int .i64 2, .int .i64 (i : Int), .int .i64 0, .int .i64 0, .int .i64 v.slot, .int .i64 v.b.r, .int .i64 v.b.n, .slice G1 v.val.length f1, .int .i64 0, .slice none 0 0, .int .i64 0, strV [], .int .i64 0, .int .i64 0, .int .i64 0, .int .i64 0]]) (m := 1) rfl rfl (H13.rd (i := 4) (o := some _) (xs := [.int .i64 2, .int .i64 (i : Int), .int .i64 0, .int .i64 0, .int .i64 v.slot, .int .i64 v.b.r, .int .i64 v.b.n, .slice G1 v.val.length f1, .int .i64 0, .slice none 0 0, .int .i64 0, strV [], .int .i64 0, .int .i64 0, .int .i64 0, .int .i64 0]) (sp := []) rfl rfl (by decide)) (Pl.one rfl) (fun p hp => by rw [List.mem_singleton.1 hp]; rfl) (by omega) (by omega) (by decide)<|fun w14 g cap sp H14 hG=>Xa rfl<|Xr e89<|run_nil (blk_normal ?_)
 refine J2<|OV (ex_add rfl rfl (IntWalk.i64_in _ (by omega)))<|Xm rfl<|Xr e89<|run_nil (rnd_normal ?_)
 exact ⟨s.votes.length - (q + 1), by omega, q + 1, _, g, cap, _, sp, rfl, (fn (fs (fn (fs (fs (fs (fn (fn (fn (fn (fn (fn (fn (fn (fn (fs (fs (fs (fn (fn (fn (fn (fn (fn (fn (fn (fn (fn (fn (fn (fn (fn (fn (fn (fn (fn (fn (fn (fn (fn (fn (fn (fn (fn (fn (fn (fn (fn (fn (fn (fn (fn (fn (fn (fn (fn (fn (fn (fn (fn (fn (fs (fs (fs (fn (fn (fn (fn (fn (fn (fn (fn (fn (fn (fn (fn (fn (fn (fn (fn (fn (fn (fn (fn (fn (fn (fn (fn (fn f0))))))))))))))))))))))))))))))))))))))))))))))))))))))))))))))))))))))))))))))))))))))))), by omega, by omega, hG, by rw [take_snoc hxv, List.map_append, ← List.append_assoc]; exact hA.app (All2.one ⟨_, _, none, 0, rfl, hbv, Bs.none _ _⟩), H14.pick [0, 1, 2] (by decide)⟩
 obtain rfl : q = s.votes.length := by omega
 rw [List.take_length] at hA
 refine Xr e89<|J1<|J4 rfl<|J8<|rnd_exit<|blk_exit<|run_nil (blk_normal ?_)
 refine J2<|OV (ex_add rfl rfl (IntWalk.i64_in _ (by omega)))<|Xm rfl<|Xr e89<|run_nil (rnd_normal ?_)
 have hti : (b.groups.take i).length = i := by rw [List.length_take]; omega
 exact ⟨b.groups.length - (i + 1), by omega, i + 1, _, g, cap, qs, sp, rfl, (fn (fs (fn (fs (fn (fn (fn (fn (fn (fn (fn (fn (fn (fn (fn (fs (fs (fs (fn (fn (fn (fn (fn (fn (fn (fn (fn (fn (fn (fn (fn (fn (fn (fn (fn (fn (fn (fn (fn (fn (fn (fn (fn (fn (fn (fn (fn (fn (fn (fn (fn (fn (fn (fn (fn (fn (fn (fn (fn (fn (fn (fn (fn (fn (fn (fn (fn (fn (fn (fn (fn (fn (fn (fn (fn (fn (fn (fn (fn (fn (fn (fn (fn (fn (fn (fn (fn (fn (fn f0))))))))))))))))))))))))))))))))))))))))))))))))))))))))))))))))))))))))))))))))))))))))), by omega, by omega, hG, by rw [take_snoc hx, gN_snoc, hti]; unfold svN; simpa only [List.append_assoc] using hA, H10.pick [0, 1] (by decide)⟩
 have him : imgs i s = [] := if_neg hp24
 replace hA : All2 (NtR w3 (fun x => n1 ≤ x ∧ x < n2)) qs (gN (b.groups.take i) ++ imgs i s) := by rw [him, List.append_nil]; exact hA
 refine Xr e89<|J4 rfl<|J6<|J1<|Rq<|Xf fl57_4 rfl<|OV (EL ty55 rfl (H6.cell (i := 2) rfl rfl))<|OV (ES Tryz.underlying55 rfl)<|Xm rfl<|Xr e89<|J7<|run_loop (fun nQ lQ w => ∃ (q : Nat) (z : Int) (g : Option Nat) (cap : Nat) (qs : List (List Value)) (sp : List Value), s.entries.length - q = nQ ∧ Fits [none, some (.pointer (some ⟨gb, 0, none⟩)), none, some (.slice (hd g) qs.length cap), some (.int .i64 (i : Int)), some (.pointer (some ⟨g5, 0, none⟩)), none, none, none, none, none, none, none, none, none, some (.slice (some a1) b.groups.length j1), some (.int .i64 (b.groups.length : Int)), some (.int .i64 (i : Int)), none, none, none, none, none, none, none, none, none, none, none, none, none, none, none, none, none, none, some (.slice D3 s.entries.length e3), some (.int .i64 (s.entries.length : Int)), some (.int .i64 z), none, none, none, none, none, none, none, none, none, none, none, none, none, none, none, none, none, none, none, none, none, none, none, none, none, none, none, none, none, none, none, none, none, none, none, none, none, none, none, none, none, none, none, none, none, none, none, none, none, none] lQ ∧ z = (q : Int) ∧ q ≤ s.entries.length ∧ Gw 16 g cap qs sp ∧ All2 (NtR w3 (fun x => n1 ≤ x ∧ x < n2)) qs (gN (b.groups.take i) ++ imgs i s ++ (s.entries.take q).map (ntE i)) ∧ Hp w3 w (bl [((some gb, 27, [.slice (some a1) b.groups.length j1, .slice B2 b.rights.length j2, .slice B3 b.last.length j3]) : Ent)]) [((some gb, 27, [.slice (some a1) b.groups.length j1, .slice B2 b.rights.length j2, .slice B3 b.last.length j3]) : Ent), (g, 45, qs.flatten ++ sp), (some g5, 57, [.int .i64 s.p.r, .int .i64 s.p.n, .slice D1 s.votes.length e1, .int .i64 s.index, .slice D2 s.image.length e2, .slice D3 s.entries.length e3])]) (s.entries.length) ?_ ?_
 exact ⟨0, _, g, cap, qs, sp, rfl, (fn (fs (fn (fs (fs (fs (fn (fn (fn (fn (fn (fn (fn (fn (fn (fs (fs (fs (fn (fn (fn (fn (fn (fn (fn (fn (fn (fn (fn (fn (fn (fn (fn (fn (fn (fn (fs (fs (fs (fn (fn (fn (fn (fn (fn (fn (fn (fn (fn (fn (fn (fn (fn (fn (fn (fn (fn (fn (fn (fn (fn (fn (fn (fn (fn (fn (fn (fn (fn (fn (fn (fn (fn (fn (fn (fn (fn (fn (fn (fn (fn (fn (fn (fn (fn (fn (fn (fn (fn f0))))))))))))))))))))))))))))))))))))))))))))))))))))))))))))))))))))))))))))))))))))))))), rfl, Nat.zero_le _, hG, by simpa using hA, H6.pick [0, 1, 2] (by decide)⟩
 rintro nQ lQ w7 ⟨q, z, g, cap, qs, sp, rfl, hfit, rfl, hqi, hG, hA, H7⟩
 obtain ⟨j, rfl⟩ := hfit.open
 refine cR e89 ?_
 clear hfit
 refine Rq<|OT (ex_lss rfl rfl) (fun hp39 => ?_) (fun hp39 => ?_)
 have hqv : q < s.entries.length := by omega
 obtain ⟨v, hxv⟩ := get_of hqv
 obtain ⟨pv, hpv1, hRv⟩ := h2e.get hxv
 obtain ⟨G1, f1, rfl, hbv⟩ := hRv
 obtain ⟨a3, ha3⟩ := hre.some_ (by omega)
 subst ha3
 have hql := hA.len
 try simp only [List.length_append, List.length_map, List.length_take] at hql
 refine Xr e89<|J1<|J3 rfl<|J6<|J1<|J7<|Rq<|OV (EI Tryz.underlying55 ty41 rfl rfl rfl hqv rfl)<|OV (EN ty41 rfl (vs := [.int .i64 v.slot, .slice G1 v.val.length f1]) rfl (((hre.move (by decide) hae H7 hkS).1).elem hpe hpv1))<|OA ty41 H7<|fun w8 g7 H8 _=>OS ty41 H8 3 (vs := [.int .i64 v.slot, .slice G1 v.val.length f1]) rfl rfl rfl rfl rfl (Nat.le_refl 2) rfl<|fun w9 H9=>Xr e89<|J2<|Xm rfl<|Xm rfl<|OV (EN ty41 rfl (vs := [.int .i64 v.slot, .slice G1 v.val.length f1]) rfl (H9.cellsR (i := 3) rfl rfl))<|OV (EB ty45 pl45 rfl (cs := [.int .i64 3, .int .i64 (i : Int), .int .i64 0, .int .i64 0, .int .i64 0, .int .i64 0, .int .i64 0, .slice none 0 0, .int .i64 v.slot, .slice G1 v.val.length f1, .int .i64 0, strV [], .int .i64 0, .int .i64 0, .int .i64 0, .int .i64 0]) (by kernel_rfl))<|cOp e89<|ops_buildSlice Tryz.underlying22 ty45 H9 (cs := [.int .i64 3, .int .i64 (i : Int), .int .i64 0, .int .i64 0, .int .i64 0, .int .i64 0, .int .i64 0, .slice none 0 0, .int .i64 v.slot, .slice G1 v.val.length f1, .int .i64 0, strV [], .int .i64 0, .int .i64 0, .int .i64 0, .int .i64 0]) rfl (by decide) (by kernel_rfl)<|fun w10 gk H10 _=>ops_grow Tryz.underlying22 ty45 (by decide) H10 1 hG rfl rfl (rs := [[.int .i64 3, .int .i64 (i : Int), .int .i64 0, .int .i64 0, .int .i64 0, .int .i64 0, .int .i64 0, .slice none 0 0, .int .i64 v.slot, .slice G1 v.val.length f1, .int .i64 0, strV [], .int .i64 0, .int .i64 0, .int .i64 0, .int .i64 0]]) (m := 1) rfl rfl (H10.rd (i := 4) (o := some _) (xs := [.int .i64 3, .int .i64 (i : Int), .int .i64 0, .int .i64 0, .int .i64 0, .int .i64 0, .int .i64 0, .slice none 0 0, .int .i64 v.slot, .slice G1 v.val.length f1, .int .i64 0, strV [], .int .i64 0, .int .i64 0, .int .i64 0, .int .i64 0]) (sp := []) rfl rfl (by decide)) (Pl.one rfl) (fun p hp => by rw [List.mem_singleton.1 hp]; rfl) (by omega) (by omega) (by decide)<|fun w11 g cap sp H11 hG=>Xa rfl<|Xr e89<|run_nil (blk_normal ?_)
 refine J2<|OV (ex_add rfl rfl (IntWalk.i64_in _ (by omega)))<|Xm rfl<|Xr e89<|run_nil (rnd_normal ?_)
 exact ⟨s.entries.length - (q + 1), by omega, q + 1, _, g, cap, _, sp, rfl, (fn (fs (fn (fs (fs (fs (fn (fn (fn (fn (fn (fn (fn (fn (fn (fs (fs (fs (fn (fn (fn (fn (fn (fn (fn (fn (fn (fn (fn (fn (fn (fn (fn (fn (fn (fn (fs (fs (fs (fn (fn (fn (fn (fn (fn (fn (fn (fn (fn (fn (fn (fn (fn (fn (fn (fn (fn (fn (fn (fn (fn (fn (fn (fn (fn (fn (fn (fn (fn (fn (fn (fn (fn (fn (fn (fn (fn (fn (fn (fn (fn (fn (fn (fn (fn (fn (fn (fn (fn f0))))))))))))))))))))))))))))))))))))))))))))))))))))))))))))))))))))))))))))))))))))))))), by omega, by omega, hG, by rw [take_snoc hxv, List.map_append, ← List.append_assoc]; exact hA.app (All2.one ⟨none, 0, _, _, rfl, Bs.none _ _, hbv⟩), H11.pick [0, 1, 2] (by decide)⟩
 obtain rfl : q = s.entries.length := by omega
 rw [List.take_length] at hA
 refine Xr e89<|J1<|J4 rfl<|J8<|rnd_exit<|blk_exit<|J1<|Rq<|Xf fl57_0 rfl<|OV (EN ty36 rfl (vs := [.int .i64 s.p.r, .int .i64 s.p.n]) rfl (H7.cellsR (i := 2) rfl rfl))<|OV (EB ty36 pl36 rfl rfl)<|OT (ex_neq_bal rfl rfl) (fun hp52 => ?_) (fun hp52 => ?_)
 have hpm : prms i s = [ntP i s.p] := if_pos hp52
 have hil2 : (prms i s).length = 1 := by rw [hpm]; rfl
 have hql := hA.len
 try simp only [List.length_append, List.length_map, List.length_take] at hql
 refine Xr e89<|J3 rfl<|J2<|Xm rfl<|Xm rfl<|Xf fl57_0 rfl<|OV (EN ty36 rfl (vs := [.int .i64 s.p.r, .int .i64 s.p.n]) rfl (H7.cellsR (i := 2) rfl rfl))<|cOp e89<|OV (EB ty45 pl45 rfl (cs := [.int .i64 1, .int .i64 (i : Int), .int .i64 s.p.r, .int .i64 s.p.n, .int .i64 0, .int .i64 0, .int .i64 0, .slice none 0 0, .int .i64 0, .slice none 0 0, .int .i64 0, strV [], .int .i64 0, .int .i64 0, .int .i64 0, .int .i64 0]) (by kernel_rfl))<|ops_buildSlice Tryz.underlying22 ty45 H7 (cs := [.int .i64 1, .int .i64 (i : Int), .int .i64 s.p.r, .int .i64 s.p.n, .int .i64 0, .int .i64 0, .int .i64 0, .slice none 0 0, .int .i64 0, .slice none 0 0, .int .i64 0, strV [], .int .i64 0, .int .i64 0, .int .i64 0, .int .i64 0]) rfl (by decide) (by kernel_rfl)<|fun w8 gk H8 _=>ops_grow Tryz.underlying22 ty45 (by decide) H8 1 hG rfl rfl (rs := [[.int .i64 1, .int .i64 (i : Int), .int .i64 s.p.r, .int .i64 s.p.n, .int .i64 0, .int .i64 0, .int .i64 0, .slice none 0 0, .int .i64 0, .slice none 0 0, .int .i64 0, strV [], .int .i64 0, .int .i64 0, .int .i64 0, .int .i64 0]]) (m := 1) rfl rfl (H8.rd (i := 3) (o := some _) (xs := [.int .i64 1, .int .i64 (i : Int), .int .i64 s.p.r, .int .i64 s.p.n, .int .i64 0, .int .i64 0, .int .i64 0, .slice none 0 0, .int .i64 0, .slice none 0 0, .int .i64 0, strV [], .int .i64 0, .int .i64 0, .int .i64 0, .int .i64 0]) (sp := []) rfl rfl (by decide)) (Pl.one rfl) (fun p hp => by rw [List.mem_singleton.1 hp]; rfl) (by omega) (by omega) (by decide)<|fun w9 g cap sp H9 hG=>?_
 obtain ⟨qs, hqn⟩ : ∃ q, q = qs ++ [[.int .i64 1, .int .i64 (i : Int), .int .i64 s.p.r, .int .i64 s.p.n, .int .i64 0, .int .i64 0, .int .i64 0, .slice none 0 0, .int .i64 0, .slice none 0 0, .int .i64 0, strV [], .int .i64 0, .int .i64 0, .int .i64 0, .int .i64 0]] := ⟨_, rfl⟩
 rw [← hqn] at hG H9 ⊢
 replace hA : All2 (NtR w3 (fun x => n1 ≤ x ∧ x < n2)) qs (gN (b.groups.take i) ++ imgs i s ++ s.entries.map (ntE i) ++ prms i s) := by
   rw [hqn, hpm]
   exact hA.app (All2.one ⟨none, 0, none, 0, rfl, Bs.none _ _, Bs.none _ _⟩)
 clear hqn
 refine Xa rfl<|Xr e89<|Rq<|Xf fl57_1 rfl<|OV (EL ty54 rfl (H9.cell (i := 2) rfl rfl))<|OV (ES Tryz.underlying54 rfl)<|Xm rfl<|Xr e89<|J7<|run_loop (fun nQ lQ w => ∃ (q : Nat) (z : Int) (g : Option Nat) (cap : Nat) (qs : List (List Value)) (sp : List Value), s.votes.length - q = nQ ∧ Fits [none, some (.pointer (some ⟨gb, 0, none⟩)), none, some (.slice (hd g) qs.length cap), some (.int .i64 (i : Int)), some (.pointer (some ⟨g5, 0, none⟩)), none, none, none, none, none, none, none, none, none, some (.slice (some a1) b.groups.length j1), some (.int .i64 (b.groups.length : Int)), some (.int .i64 (i : Int)), none, none, none, none, none, none, none, none, none, none, none, none, none, none, none, none, none, none, none, none, none, none, none, none, none, none, none, none, none, none, none, none, none, none, none, none, none, none, none, none, none, none, none, some (.slice D1 s.votes.length e1), some (.int .i64 (s.votes.length : Int)), some (.int .i64 z), none, none, none, none, none, none, none, none, none, none, none, none, none, none, none, none, none, none, none, none, none, none, none, none, none] lQ ∧ z = (q : Int) ∧ q ≤ s.votes.length ∧ Gw 16 g cap qs sp ∧ All2 (NtR w3 (fun x => n1 ≤ x ∧ x < n2)) qs (gN (b.groups.take i) ++ imgs i s ++ s.entries.map (ntE i) ++ prms i s ++ (s.votes.take q).map (ntV i)) ∧ Hp w3 w (bl [((some gb, 27, [.slice (some a1) b.groups.length j1, .slice B2 b.rights.length j2, .slice B3 b.last.length j3]) : Ent)]) [((some gb, 27, [.slice (some a1) b.groups.length j1, .slice B2 b.rights.length j2, .slice B3 b.last.length j3]) : Ent), (g, 45, qs.flatten ++ sp), (some g5, 57, [.int .i64 s.p.r, .int .i64 s.p.n, .slice D1 s.votes.length e1, .int .i64 s.index, .slice D2 s.image.length e2, .slice D3 s.entries.length e3])]) (s.votes.length) ?_ ?_
 exact ⟨0, _, g, cap, qs, sp, rfl, (fn (fs (fn (fs (fs (fs (fn (fn (fn (fn (fn (fn (fn (fn (fn (fs (fs (fs (fn (fn (fn (fn (fn (fn (fn (fn (fn (fn (fn (fn (fn (fn (fn (fn (fn (fn (fn (fn (fn (fn (fn (fn (fn (fn (fn (fn (fn (fn (fn (fn (fn (fn (fn (fn (fn (fn (fn (fn (fn (fn (fn (fs (fs (fs (fn (fn (fn (fn (fn (fn (fn (fn (fn (fn (fn (fn (fn (fn (fn (fn (fn (fn (fn (fn (fn (fn (fn (fn (fn f0))))))))))))))))))))))))))))))))))))))))))))))))))))))))))))))))))))))))))))))))))))))))), rfl, Nat.zero_le _, hG, by simpa using hA, H9.pick [0, 1, 2] (by decide)⟩
 rintro nQ lQ w10 ⟨q, z, g, cap, qs, sp, rfl, hfit, rfl, hqi, hG, hA, H10⟩
 obtain ⟨j, rfl⟩ := hfit.open
 refine cR e89 ?_
 clear hfit
 refine Rq<|OT (ex_lss rfl rfl) (fun hp64 => ?_) (fun hp64 => ?_)
 have hqv : q < s.votes.length := by omega
 obtain ⟨v, hxv⟩ := get_of hqv
 obtain ⟨pv, hpv1, hRv⟩ := h2v.get hxv
 obtain ⟨G1, f1, rfl, hbv⟩ := hRv
 obtain ⟨a3, ha3⟩ := hrv.some_ (by omega)
 subst ha3
 have hql := hA.len
 try simp only [List.length_append, List.length_map, List.length_take] at hql
 refine Xr e89<|J1<|J3 rfl<|J6<|J1<|J7<|Rq<|OV (EI Tryz.underlying54 ty39 rfl rfl rfl hqv rfl)<|OV (EN ty39 rfl (vs := [.int .i64 v.slot, .int .i64 v.b.r, .int .i64 v.b.n, .slice G1 v.val.length f1]) rfl (((hrv.move (by decide) hav H10 hkS).1).elem hpv hpv1))<|OA ty39 H10<|fun w11 g7 H11 _=>OS ty39 H11 3 (vs := [.int .i64 v.slot, .int .i64 v.b.r, .int .i64 v.b.n, .slice G1 v.val.length f1]) rfl rfl rfl rfl rfl (Nat.le_refl 4) rfl<|fun w12 H12=>Xr e89<|J2<|Xm rfl<|Xm rfl<|OV (EN ty39 rfl (vs := [.int .i64 v.slot, .int .i64 v.b.r, .int .i64 v.b.n, .slice G1 v.val.length f1]) rfl (H12.cellsR (i := 3) rfl rfl))<|OV (EB ty45 pl45 rfl (cs := [.int .i64 2, .int .i64 (i : Int), .int .i64 0, .int .i64 0, .int .i64 v.slot, .int .i64 v.b.r, .int .i64 v.b.n, .slice G1 v.val.length f1, .int .i64 0, .slice none 0 0, .int .i64 0, strV [], .int .i64 0, .int .i64 0, .int .i64 0, .int .i64 0]) (by kernel_rfl))<|cOp e89<|ops_buildSlice Tryz.underlying22 ty45 H12 (cs := [.int .i64 2, .int .i64 (i : Int), .int .i64 0, .int .i64 0, .int .i64 v.slot, .int .i64 v.b.r, .int .i64 v.b.n, .slice G1 v.val.length f1, .int .i64 0, .slice none 0 0, .int .i64 0, strV [], .int .i64 0, .int .i64 0, .int .i64 0, .int .i64 0]) rfl (by decide) (by kernel_rfl)<|fun w13 gk H13 _=>ops_grow Tryz.underlying22 ty45 (by decide) H13 1 hG rfl rfl (rs := [[.int .i64 2, .int .i64 (i : Int), .int .i64 0, .int .i64 0, .int .i64 v.slot, .int .i64 v.b.r, .int .i64 v.b.n, .slice G1 v.val.length f1, .int .i64 0, .slice none 0 0, .int .i64 0, strV [], .int .i64 0, .int .i64 0, .int .i64 0, .int .i64 0]]) (m := 1) rfl rfl (H13.rd (i := 4) (o := some _) (xs := [.int .i64 2, .int .i64 (i : Int), .int .i64 0, .int .i64 0, .int .i64 v.slot, .int .i64 v.b.r, .int .i64 v.b.n, .slice G1 v.val.length f1, .int .i64 0, .slice none 0 0, .int .i64 0, strV [], .int .i64 0, .int .i64 0, .int .i64 0, .int .i64 0]) (sp := []) rfl rfl (by decide)) (Pl.one rfl) (fun p hp => by rw [List.mem_singleton.1 hp]; rfl) (by omega) (by omega) (by decide)<|fun w14 g cap sp H14 hG=>Xa rfl<|Xr e89<|run_nil (blk_normal ?_)
 refine J2<|OV (ex_add rfl rfl (IntWalk.i64_in _ (by omega)))<|Xm rfl<|Xr e89<|run_nil (rnd_normal ?_)
 exact ⟨s.votes.length - (q + 1), by omega, q + 1, _, g, cap, _, sp, rfl, (fn (fs (fn (fs (fs (fs (fn (fn (fn (fn (fn (fn (fn (fn (fn (fs (fs (fs (fn (fn (fn (fn (fn (fn (fn (fn (fn (fn (fn (fn (fn (fn (fn (fn (fn (fn (fn (fn (fn (fn (fn (fn (fn (fn (fn (fn (fn (fn (fn (fn (fn (fn (fn (fn (fn (fn (fn (fn (fn (fn (fn (fs (fs (fs (fn (fn (fn (fn (fn (fn (fn (fn (fn (fn (fn (fn (fn (fn (fn (fn (fn (fn (fn (fn (fn (fn (fn (fn (fn f0))))))))))))))))))))))))))))))))))))))))))))))))))))))))))))))))))))))))))))))))))))))))), by omega, by omega, hG, by rw [take_snoc hxv, List.map_append, ← List.append_assoc]; exact hA.app (All2.one ⟨_, _, none, 0, rfl, hbv, Bs.none _ _⟩), H14.pick [0, 1, 2] (by decide)⟩
 obtain rfl : q = s.votes.length := by omega
 rw [List.take_length] at hA
 refine Xr e89<|J1<|J4 rfl<|J8<|rnd_exit<|blk_exit<|run_nil (blk_normal ?_)
 refine J2<|OV (ex_add rfl rfl (IntWalk.i64_in _ (by omega)))<|Xm rfl<|Xr e89<|run_nil (rnd_normal ?_)
 have hti : (b.groups.take i).length = i := by rw [List.length_take]; omega
 exact ⟨b.groups.length - (i + 1), by omega, i + 1, _, g, cap, qs, sp, rfl, (fn (fs (fn (fs (fn (fn (fn (fn (fn (fn (fn (fn (fn (fn (fn (fs (fs (fs (fn (fn (fn (fn (fn (fn (fn (fn (fn (fn (fn (fn (fn (fn (fn (fn (fn (fn (fn (fn (fn (fn (fn (fn (fn (fn (fn (fn (fn (fn (fn (fn (fn (fn (fn (fn (fn (fn (fn (fn (fn (fn (fn (fn (fn (fn (fn (fn (fn (fn (fn (fn (fn (fn (fn (fn (fn (fn (fn (fn (fn (fn (fn (fn (fn (fn (fn (fn (fn (fn (fn f0))))))))))))))))))))))))))))))))))))))))))))))))))))))))))))))))))))))))))))))))))))))))), by omega, by omega, hG, by rw [take_snoc hx, gN_snoc, hti]; unfold svN; simpa only [List.append_assoc] using hA, H10.pick [0, 1] (by decide)⟩
 have hpm : prms i s = [] := if_neg hp52
 replace hA : All2 (NtR w3 (fun x => n1 ≤ x ∧ x < n2)) qs (gN (b.groups.take i) ++ imgs i s ++ s.entries.map (ntE i) ++ prms i s) := by rw [hpm, List.append_nil]; exact hA
 refine Xr e89<|J4 rfl<|J6<|Rq<|Xf fl57_1 rfl<|OV (EL ty54 rfl (H7.cell (i := 2) rfl rfl))<|OV (ES Tryz.underlying54 rfl)<|Xm rfl<|Xr e89<|J7<|run_loop (fun nQ lQ w => ∃ (q : Nat) (z : Int) (g : Option Nat) (cap : Nat) (qs : List (List Value)) (sp : List Value), s.votes.length - q = nQ ∧ Fits [none, some (.pointer (some ⟨gb, 0, none⟩)), none, some (.slice (hd g) qs.length cap), some (.int .i64 (i : Int)), some (.pointer (some ⟨g5, 0, none⟩)), none, none, none, none, none, none, none, none, none, some (.slice (some a1) b.groups.length j1), some (.int .i64 (b.groups.length : Int)), some (.int .i64 (i : Int)), none, none, none, none, none, none, none, none, none, none, none, none, none, none, none, none, none, none, none, none, none, none, none, none, none, none, none, none, none, none, none, none, none, none, none, none, none, none, none, none, none, none, none, some (.slice D1 s.votes.length e1), some (.int .i64 (s.votes.length : Int)), some (.int .i64 z), none, none, none, none, none, none, none, none, none, none, none, none, none, none, none, none, none, none, none, none, none, none, none, none, none] lQ ∧ z = (q : Int) ∧ q ≤ s.votes.length ∧ Gw 16 g cap qs sp ∧ All2 (NtR w3 (fun x => n1 ≤ x ∧ x < n2)) qs (gN (b.groups.take i) ++ imgs i s ++ s.entries.map (ntE i) ++ prms i s ++ (s.votes.take q).map (ntV i)) ∧ Hp w3 w (bl [((some gb, 27, [.slice (some a1) b.groups.length j1, .slice B2 b.rights.length j2, .slice B3 b.last.length j3]) : Ent)]) [((some gb, 27, [.slice (some a1) b.groups.length j1, .slice B2 b.rights.length j2, .slice B3 b.last.length j3]) : Ent), (g, 45, qs.flatten ++ sp), (some g5, 57, [.int .i64 s.p.r, .int .i64 s.p.n, .slice D1 s.votes.length e1, .int .i64 s.index, .slice D2 s.image.length e2, .slice D3 s.entries.length e3])]) (s.votes.length) ?_ ?_
 exact ⟨0, _, g, cap, qs, sp, rfl, (fn (fs (fn (fs (fs (fs (fn (fn (fn (fn (fn (fn (fn (fn (fn (fs (fs (fs (fn (fn (fn (fn (fn (fn (fn (fn (fn (fn (fn (fn (fn (fn (fn (fn (fn (fn (fn (fn (fn (fn (fn (fn (fn (fn (fn (fn (fn (fn (fn (fn (fn (fn (fn (fn (fn (fn (fn (fn (fn (fn (fn (fs (fs (fs (fn (fn (fn (fn (fn (fn (fn (fn (fn (fn (fn (fn (fn (fn (fn (fn (fn (fn (fn (fn (fn (fn (fn (fn (fn f0))))))))))))))))))))))))))))))))))))))))))))))))))))))))))))))))))))))))))))))))))))))))), rfl, Nat.zero_le _, hG, by simpa using hA, H7.pick [0, 1, 2] (by decide)⟩
 rintro nQ lQ w8 ⟨q, z, g, cap, qs, sp, rfl, hfit, rfl, hqi, hG, hA, H8⟩
 obtain ⟨j, rfl⟩ := hfit.open
 refine cR e89 ?_
 clear hfit
 refine Rq<|OT (ex_lss rfl rfl) (fun hp64 => ?_) (fun hp64 => ?_)
 have hqv : q < s.votes.length := by omega
 obtain ⟨v, hxv⟩ := get_of hqv
 obtain ⟨pv, hpv1, hRv⟩ := h2v.get hxv
 obtain ⟨G1, f1, rfl, hbv⟩ := hRv
 obtain ⟨a3, ha3⟩ := hrv.some_ (by omega)
 subst ha3
 have hql := hA.len
 try simp only [List.length_append, List.length_map, List.length_take] at hql
 refine Xr e89<|J1<|J3 rfl<|J6<|J1<|J7<|Rq<|OV (EI Tryz.underlying54 ty39 rfl rfl rfl hqv rfl)<|OV (EN ty39 rfl (vs := [.int .i64 v.slot, .int .i64 v.b.r, .int .i64 v.b.n, .slice G1 v.val.length f1]) rfl (((hrv.move (by decide) hav H8 hkS).1).elem hpv hpv1))<|OA ty39 H8<|fun w9 g7 H9 _=>OS ty39 H9 3 (vs := [.int .i64 v.slot, .int .i64 v.b.r, .int .i64 v.b.n, .slice G1 v.val.length f1]) rfl rfl rfl rfl rfl (Nat.le_refl 4) rfl<|fun w10 H10=>Xr e89<|J2<|Xm rfl<|Xm rfl<|OV (EN ty39 rfl (vs := [.int .i64 v.slot, .int .i64 v.b.r, .int .i64 v.b.n, .slice G1 v.val.length f1]) rfl (H10.cellsR (i := 3) rfl rfl))<|OV (EB ty45 pl45 rfl (cs := [.int .i64 2, .int .i64 (i : Int), .int .i64 0, .int .i64 0, .int .i64 v.slot, .int .i64 v.b.r, .int .i64 v.b.n, .slice G1 v.val.length f1, .int .i64 0, .slice none 0 0, .int .i64 0, strV [], .int .i64 0, .int .i64 0, .int .i64 0, .int .i64 0]) (by kernel_rfl))<|cOp e89<|ops_buildSlice Tryz.underlying22 ty45 H10 (cs := [.int .i64 2, .int .i64 (i : Int), .int .i64 0, .int .i64 0, .int .i64 v.slot, .int .i64 v.b.r, .int .i64 v.b.n, .slice G1 v.val.length f1, .int .i64 0, .slice none 0 0, .int .i64 0, strV [], .int .i64 0, .int .i64 0, .int .i64 0, .int .i64 0]) rfl (by decide) (by kernel_rfl)<|fun w11 gk H11 _=>ops_grow Tryz.underlying22 ty45 (by decide) H11 1 hG rfl rfl (rs := [[.int .i64 2, .int .i64 (i : Int), .int .i64 0, .int .i64 0, .int .i64 v.slot, .int .i64 v.b.r, .int .i64 v.b.n, .slice G1 v.val.length f1, .int .i64 0, .slice none 0 0, .int .i64 0, strV [], .int .i64 0, .int .i64 0, .int .i64 0, .int .i64 0]]) (m := 1) rfl rfl (H11.rd (i := 4) (o := some _) (xs := [.int .i64 2, .int .i64 (i : Int), .int .i64 0, .int .i64 0, .int .i64 v.slot, .int .i64 v.b.r, .int .i64 v.b.n, .slice G1 v.val.length f1, .int .i64 0, .slice none 0 0, .int .i64 0, strV [], .int .i64 0, .int .i64 0, .int .i64 0, .int .i64 0]) (sp := []) rfl rfl (by decide)) (Pl.one rfl) (fun p hp => by rw [List.mem_singleton.1 hp]; rfl) (by omega) (by omega) (by decide)<|fun w12 g cap sp H12 hG=>Xa rfl<|Xr e89<|run_nil (blk_normal ?_)
 refine J2<|OV (ex_add rfl rfl (IntWalk.i64_in _ (by omega)))<|Xm rfl<|Xr e89<|run_nil (rnd_normal ?_)
 exact ⟨s.votes.length - (q + 1), by omega, q + 1, _, g, cap, _, sp, rfl, (fn (fs (fn (fs (fs (fs (fn (fn (fn (fn (fn (fn (fn (fn (fn (fs (fs (fs (fn (fn (fn (fn (fn (fn (fn (fn (fn (fn (fn (fn (fn (fn (fn (fn (fn (fn (fn (fn (fn (fn (fn (fn (fn (fn (fn (fn (fn (fn (fn (fn (fn (fn (fn (fn (fn (fn (fn (fn (fn (fn (fn (fs (fs (fs (fn (fn (fn (fn (fn (fn (fn (fn (fn (fn (fn (fn (fn (fn (fn (fn (fn (fn (fn (fn (fn (fn (fn (fn (fn f0))))))))))))))))))))))))))))))))))))))))))))))))))))))))))))))))))))))))))))))))))))))))), by omega, by omega, hG, by rw [take_snoc hxv, List.map_append, ← List.append_assoc]; exact hA.app (All2.one ⟨_, _, none, 0, rfl, hbv, Bs.none _ _⟩), H12.pick [0, 1, 2] (by decide)⟩
 obtain rfl : q = s.votes.length := by omega
 rw [List.take_length] at hA
 refine Xr e89<|J1<|J4 rfl<|J8<|rnd_exit<|blk_exit<|run_nil (blk_normal ?_)
 refine J2<|OV (ex_add rfl rfl (IntWalk.i64_in _ (by omega)))<|Xm rfl<|Xr e89<|run_nil (rnd_normal ?_)
 have hti : (b.groups.take i).length = i := by rw [List.length_take]; omega
 exact ⟨b.groups.length - (i + 1), by omega, i + 1, _, g, cap, qs, sp, rfl, (fn (fs (fn (fs (fn (fn (fn (fn (fn (fn (fn (fn (fn (fn (fn (fs (fs (fs (fn (fn (fn (fn (fn (fn (fn (fn (fn (fn (fn (fn (fn (fn (fn (fn (fn (fn (fn (fn (fn (fn (fn (fn (fn (fn (fn (fn (fn (fn (fn (fn (fn (fn (fn (fn (fn (fn (fn (fn (fn (fn (fn (fn (fn (fn (fn (fn (fn (fn (fn (fn (fn (fn (fn (fn (fn (fn (fn (fn (fn (fn (fn (fn (fn (fn (fn (fn (fn (fn (fn f0))))))))))))))))))))))))))))))))))))))))))))))))))))))))))))))))))))))))))))))))))))))))), by omega, by omega, hG, by rw [take_snoc hx, gN_snoc, hti]; unfold svN; simpa only [List.append_assoc] using hA, H8.pick [0, 1] (by decide)⟩
 obtain rfl : i = b.groups.length := by omega
 rw [List.take_length] at hA
 refine Xr e89<|J1<|J4 rfl<|J8<|rnd_exit<|blk_exit<|J1<|Rq<|Xf fl27_1 rfl<|OV (EL ty24 rfl (H4.cell (i := 0) rfl rfl))<|OV (ES Tryz.underlying24 rfl)<|Xm rfl<|Xr e89<|J7<|run_loop (fun nQ lQ w => ∃ (q : Nat) (z : Int) (g : Option Nat) (cap : Nat) (qs : List (List Value)) (sp : List Value), b.rights.length - q = nQ ∧ Fits [none, some (.pointer (some ⟨gb, 0, none⟩)), none, some (.slice (hd g) qs.length cap), none, none, none, none, none, none, none, none, none, none, none, none, none, none, none, none, none, none, none, none, none, none, none, none, none, none, none, none, none, none, none, none, none, none, none, none, none, none, none, none, none, none, none, none, none, none, none, none, none, none, none, none, none, none, none, none, none, none, none, none, none, none, none, none, none, none, none, none, none, none, none, none, some (.slice B2 b.rights.length j2), some (.int .i64 (b.rights.length : Int)), some (.int .i64 z), none, none, none, none, none, none, none, none, none, none] lQ ∧ z = (q : Int) ∧ q ≤ b.rights.length ∧ Gw 16 g cap qs sp ∧ All2 (NtR w3 (fun x => n1 ≤ x ∧ x < n2)) qs (gN b.groups ++ (b.rights.take q).map ntF) ∧ Hp w3 w (bl [((some gb, 27, [.slice (some a1) b.groups.length j1, .slice B2 b.rights.length j2, .slice B3 b.last.length j3]) : Ent)]) [((some gb, 27, [.slice (some a1) b.groups.length j1, .slice B2 b.rights.length j2, .slice B3 b.last.length j3]) : Ent), (g, 45, qs.flatten ++ sp)]) (b.rights.length) ?_ ?_
 exact ⟨0, _, g, cap, qs, sp, rfl, (fn (fs (fn (fs (fn (fn (fn (fn (fn (fn (fn (fn (fn (fn (fn (fn (fn (fn (fn (fn (fn (fn (fn (fn (fn (fn (fn (fn (fn (fn (fn (fn (fn (fn (fn (fn (fn (fn (fn (fn (fn (fn (fn (fn (fn (fn (fn (fn (fn (fn (fn (fn (fn (fn (fn (fn (fn (fn (fn (fn (fn (fn (fn (fn (fn (fn (fn (fn (fn (fn (fn (fn (fn (fn (fn (fn (fs (fs (fs (fn (fn (fn (fn (fn (fn (fn (fn (fn (fn f0))))))))))))))))))))))))))))))))))))))))))))))))))))))))))))))))))))))))))))))))))))))))), rfl, Nat.zero_le _, hG, by simpa using hA, H4⟩
 rintro nQ lQ w5 ⟨q, z, g, cap, qs, sp, rfl, hfit, rfl, hqi, hG, hA, H5⟩
 obtain ⟨j, rfl⟩ := hfit.open
 refine cR e89 ?_
 clear hfit
 refine Rq<|OT (ex_lss rfl rfl) (fun hp79 => ?_) (fun hp79 => ?_)
 have hqv : q < b.rights.length := by omega
 obtain ⟨v, hxv⟩ := get_of hqv
 obtain ⟨pv, hpv1, hRv⟩ := h2r.get hxv
 unfold RtR at hRv
 subst hRv
 obtain ⟨a3, ha3⟩ := hrr.some_ (by omega)
 subst ha3
 have hnl : b.notes.length = (gN b.groups).length + b.rights.length := by unfold Bo.notes; simp only [List.length_append, List.length_map]
 have hql := hA.len
 try simp only [List.length_append, List.length_map, List.length_take] at hql
 refine Xr e89<|J1<|J3 rfl<|J6<|J1<|J7<|Rq<|OV (EI Tryz.underlying24 ty43 rfl rfl rfl hqv rfl)<|OV (EN ty43 rfl (vs := [.int .i64 v.g, strV v.key, .int .i64 v.lease, .int .i64 v.net]) rfl (((hrr.move (by decide) har H5 hkS).1).elem hpr hpv1))<|OA ty43 H5<|fun w6 g7 H6 _=>OS ty43 H6 2 (vs := [.int .i64 v.g, strV v.key, .int .i64 v.lease, .int .i64 v.net]) rfl rfl rfl rfl rfl (Nat.le_refl 4) rfl<|fun w7 H7=>Xr e89<|J2<|Xm rfl<|OV (EN ty43 rfl (vs := [.int .i64 v.g, strV v.key, .int .i64 v.lease, .int .i64 v.net]) rfl (H7.cellsR (i := 2) rfl rfl))<|OV (EB ty45 pl45 rfl (cs := [.int .i64 5, .int .i64 0, .int .i64 0, .int .i64 0, .int .i64 0, .int .i64 0, .int .i64 0, .slice none 0 0, .int .i64 0, .slice none 0 0, .int .i64 v.g, strV v.key, .int .i64 v.lease, .int .i64 v.net, .int .i64 0, .int .i64 0]) (by kernel_rfl))<|ops_buildSlice Tryz.underlying22 ty45 H7 (cs := [.int .i64 5, .int .i64 0, .int .i64 0, .int .i64 0, .int .i64 0, .int .i64 0, .int .i64 0, .slice none 0 0, .int .i64 0, .slice none 0 0, .int .i64 v.g, strV v.key, .int .i64 v.lease, .int .i64 v.net, .int .i64 0, .int .i64 0]) rfl (by decide) (by kernel_rfl)<|fun w8 gk H8 _=>cOp e89<|ops_grow Tryz.underlying22 ty45 (by decide) H8 1 hG rfl rfl (rs := [[.int .i64 5, .int .i64 0, .int .i64 0, .int .i64 0, .int .i64 0, .int .i64 0, .int .i64 0, .slice none 0 0, .int .i64 0, .slice none 0 0, .int .i64 v.g, strV v.key, .int .i64 v.lease, .int .i64 v.net, .int .i64 0, .int .i64 0]]) (m := 1) rfl rfl (H8.rd (i := 3) (o := some _) (xs := [.int .i64 5, .int .i64 0, .int .i64 0, .int .i64 0, .int .i64 0, .int .i64 0, .int .i64 0, .slice none 0 0, .int .i64 0, .slice none 0 0, .int .i64 v.g, strV v.key, .int .i64 v.lease, .int .i64 v.net, .int .i64 0, .int .i64 0]) (sp := []) rfl rfl (by decide)) (Pl.one rfl) (fun p hp => by rw [List.mem_singleton.1 hp]; rfl) (by omega) (by omega) (by decide)<|fun w9 g cap sp H9 hG=>Xa rfl<|Xr e89<|run_nil (blk_normal ?_)
 refine J2<|OV (ex_add rfl rfl (IntWalk.i64_in _ (by omega)))<|Xm rfl<|Xr e89<|run_nil (rnd_normal ?_)
 exact ⟨b.rights.length - (q + 1), by omega, q + 1, _, g, cap, _, sp, rfl, (fn (fs (fn (fs (fn (fn (fn (fn (fn (fn (fn (fn (fn (fn (fn (fn (fn (fn (fn (fn (fn (fn (fn (fn (fn (fn (fn (fn (fn (fn (fn (fn (fn (fn (fn (fn (fn (fn (fn (fn (fn (fn (fn (fn (fn (fn (fn (fn (fn (fn (fn (fn (fn (fn (fn (fn (fn (fn (fn (fn (fn (fn (fn (fn (fn (fn (fn (fn (fn (fn (fn (fn (fn (fn (fn (fn (fs (fs (fs (fn (fn (fn (fn (fn (fn (fn (fn (fn (fn f0))))))))))))))))))))))))))))))))))))))))))))))))))))))))))))))))))))))))))))))))))))))))), by omega, by omega, hG, by rw [take_snoc hxv, List.map_append, ← List.append_assoc]; exact hA.app (All2.one ⟨none, 0, none, 0, rfl, Bs.none _ _, Bs.none _ _⟩), H9.pick [0, 1] (by decide)⟩
 obtain rfl : q = b.rights.length := by omega
 rw [List.take_length] at hA
 refine Xr e89<|J1<|J4 rfl<|J8<|rnd_exit<|blk_exit<|Rq<|Xm rfl<|Xa rfl<|Xr e89<|J5<|FN1 rfl rfl ?_
 have hlq : qs.length = b.notes.length := hA.len
 have HW := HS.all H5
 rw [hlq]
 exact ⟨hd g, cap, rfl, Sl.row HW (i := 1) rfl hG.2.2.2 (by decide) (hA.imp fun p x h => NtR.to h H5 fun x hx _ => ⟨(hkS x hx (by omega)).1, by omega⟩) (fun k hk => by subst hk; exact HW.new (i := 1) rfl), HW.noRows⟩
end Go.Proofs.YtbninklfoogmdaaGreat
/- Walks of layer 2, printed by wip/gen/codec.py. -/
namespace Go.Proofs.YtbninklfoogmdaaGreat
open Go Go.RowKit
set_option linter.unusedVariables false
attribute [local irreducible] Still Ops Does Cd
set_option maxRecDepth 100000 in
set_option maxHeartbeats 32000000 in
theorem notes_r (b : Bo) (A1 : Option Addr) (k1 : Nat) (A2 : Option Addr) (k2 : Nat) (A3 : Option Addr) (m3 k3 : Nat) (N : Nat) (ok : Nat → Prop) (w0 : World) (hb1 : Sl (SvR w0 ok) 6 w0 ok A1 b.groups) (hb2 : Sl RtR 4 w0 ok A2 b.rights) (hg : Good b N) (hN : N ≤ 900000000000) (hnn : b.notes.length ≤ 1200000000000) : Does Tryz.prog 18 #[.agg [.slice A1 b.groups.length k1, .slice A2 b.rights.length k2, .slice A3 m3 k3].toArray] w0 (fun r w' => ∃ A k, r = .slice A b.notes.length k ∧ Sl (NtR w' (up (fun x => ok x ∧ x < w0.heap.size) w0.heap.size)) 16 w' (up (fun x => ok x ∧ x < w0.heap.size) w0.heap.size) A b.notes ∧ Hp w0 w' [] []) := by
 refine does_of Tryz.func18 Tryz.ntmps18 rfl<|cR e96 ?_
 have hz8 := hg.eight
 obtain ⟨ps, hp, hr, ha, h2⟩ := hb1.toS (ok' := (fun x => ok x ∧ x < w0.heap.size)) (Hp.refl _) fun x hx hl => ⟨by simp, hx, hl⟩
 obtain ⟨pr, hpr, hrr, har, h2r⟩ := hb2.toR (ok' := (fun x => ok x ∧ x < w0.heap.size)) (Hp.refl _) fun x hx hl => ⟨by simp, hx, hl⟩
 obtain ⟨a1, rfl⟩ := hr.some_ (by omega)
 have hkS : ∀ x, (fun x => ok x ∧ x < w0.heap.size) x → x < w0.heap.size → x ∉ ([] : List Nat) ∧ (fun x => ok x ∧ x < w0.heap.size) x := fun x hx _ => ⟨by simp, hx⟩
 have H := Hp.refl w0
 refine Rq<|ops_box rfl rfl H<|fun w1 gb H1 _=>Xa rfl<|Xr e96<|Rq<|Xa rfl<|Xr e96<|J1<|Rq<|Xa rfl<|Xr e96<|J7<|run_loop (fun nQ lQ w => ∃ (i : Nat) (y : Int) (g : Option Nat) (cap : Nat) (qs : List (List Value)) (sp : List Value), b.groups.length - i = nQ ∧ Fits [none, some (.pointer (some ⟨gb, 0, none⟩)), none, some (.slice (hd g) qs.length cap), some (.int .i64 y), none, none, none, none, none, none, none, none, none, none, none, none, none, none, none, none, none, none, none, none, none, none, none, none, none, none, none, none, none, none, none, none, none, none, none, none, none, none, none, none, none, none, none, none, none, none, none, none, none, none, none, none, none, none, none, none, none, none, none, none, none, none, none, none, none, none, none, none, none, none, none, none, none, none, none, none, none, none, none, none, none, none, none, none, none, none, none, none, none, none, none] lQ ∧ y = (i : Int) ∧ i ≤ b.groups.length ∧ Gw 16 g cap qs sp ∧ All2 (NtR w0 (fun x => ok x ∧ x < w0.heap.size)) qs (gN (b.groups.take i)) ∧ Hp w0 w ([]) [((some gb, 27, [.slice (some a1) b.groups.length k1, .slice A2 b.rights.length k2, .slice A3 m3 k3]) : Ent), (g, 45, qs.flatten ++ sp)]) (b.groups.length) ?_ ?_
 exact ⟨0, _, none, 0, [], [], rfl, (fn (fs (fn (fs (fs (fn (fn (fn (fn (fn (fn (fn (fn (fn (fn (fn (fn (fn (fn (fn (fn (fn (fn (fn (fn (fn (fn (fn (fn (fn (fn (fn (fn (fn (fn (fn (fn (fn (fn (fn (fn (fn (fn (fn (fn (fn (fn (fn (fn (fn (fn (fn (fn (fn (fn (fn (fn (fn (fn (fn (fn (fn (fn (fn (fn (fn (fn (fn (fn (fn (fn (fn (fn (fn (fn (fn (fn (fn (fn (fn (fn (fn (fn (fn (fn (fn (fn (fn (fn (fn (fn (fn (fn (fn (fn (fn f0)))))))))))))))))))))))))))))))))))))))))))))))))))))))))))))))))))))))))))))))))))))))))))))))), rfl, Nat.zero_le _, Gw.nil 16, trivial, H1.nil 45⟩
 rintro nQ lQ w2 ⟨i, y, g, cap, qs, sp, rfl, hfit, rfl, hi, hG, hA, H2⟩
 obtain ⟨j, rfl⟩ := hfit.open
 refine cR e96 ?_
 clear hfit
 refine J1<|Rq<|Xm rfl<|Xf fl27_0 rfl<|OV (EL ty23 rfl (H2.cell (i := 0) rfl rfl))<|OV (ES Tryz.underlying23 rfl)<|cOp e96<|OT (ex_lss rfl rfl) (fun hp13 => ?_) (fun hp13 => ?_)
 have hil : i < b.groups.length := by omega
 obtain ⟨s, hx⟩ := get_of hil
 obtain ⟨p1, hp1, hR⟩ := h2.get hx
 obtain ⟨D1, e1, D2, e2, D3, e3, rfl, hv, hm, he⟩ := hR
 obtain ⟨R, hRr⟩ := gN_at hx
 have hnl : b.notes.length = (gN (b.groups.take i)).length + (imgs i s).length + s.entries.length + (prms i s).length + s.votes.length + R.length + b.rights.length := by
   unfold Bo.notes
   rw [hRr]
   unfold svN
   simp only [List.length_append, List.length_map]
   omega
 obtain ⟨vs, hpv, hrv, hav, h2v⟩ := id hv
 obtain ⟨en, hpe, hre, hae, h2e⟩ := id he
 have hql := hA.len
 try simp only [List.length_append, List.length_map, List.length_take] at hql
 refine Xr e96<|J3 rfl<|J6<|J1<|J7<|Rq<|Xf fl27_0 rfl<|OV (EL ty23 rfl (H2.cell (i := 0) rfl rfl))<|Xm rfl<|OV (EI Tryz.underlying23 ty57 rfl rfl rfl hil rfl)<|cOp e96<|OV (EN ty57 rfl (vs := [.int .i64 s.p.r, .int .i64 s.p.n, .slice D1 s.votes.length e1, .int .i64 s.index, .slice D2 s.image.length e2, .slice D3 s.entries.length e3]) rfl (((hr.move (by decide) ha H2 hkS).1).elem hp hp1))<|OA ty57 H2<|fun w3 g5 H3 _=>OS ty57 H3 2 (vs := [.int .i64 s.p.r, .int .i64 s.p.n, .slice D1 s.votes.length e1, .int .i64 s.index, .slice D2 s.image.length e2, .slice D3 s.entries.length e3]) rfl rfl rfl rfl rfl (Nat.le_refl 6) rfl<|fun w4 H4=>Xr e96<|J1<|Rq<|Xf fl57_2 rfl<|OV (EL ty3 rfl (H4.cell (i := 2) rfl rfl))<|OT (ex_neq rfl rfl) (fun hp23 => ?_) (fun hp23 => ?_)
 have him : imgs i s = [ntI i s] := if_pos hp23
 have hil1 : (imgs i s).length = 1 := by rw [him]; rfl
 refine Xr e96<|J3 rfl<|J2<|Xm rfl<|Xm rfl<|Xf fl57_2 rfl<|OV (EL ty3 rfl (H4.cell (i := 2) rfl rfl))<|cOp e96<|Xf fl57_3 rfl<|OV (EL ty37 rfl (H4.cell (i := 2) rfl rfl))<|OV (EB ty41 pl41 rfl rfl)<|OV (EB ty45 pl45 rfl (cs := [.int .i64 4, .int .i64 (i : Int), .int .i64 0, .int .i64 0, .int .i64 0, .int .i64 0, .int .i64 0, .slice none 0 0, .int .i64 s.index, .slice D2 s.image.length e2, .int .i64 0, strV [], .int .i64 0, .int .i64 0, .int .i64 0, .int .i64 0]) (by kernel_rfl))<|cOp e96<|ops_buildSlice Tryz.underlying22 ty45 H4 (cs := [.int .i64 4, .int .i64 (i : Int), .int .i64 0, .int .i64 0, .int .i64 0, .int .i64 0, .int .i64 0, .slice none 0 0, .int .i64 s.index, .slice D2 s.image.length e2, .int .i64 0, strV [], .int .i64 0, .int .i64 0, .int .i64 0, .int .i64 0]) rfl (by decide) (by kernel_rfl)<|fun w5 gk H5 _=>ops_grow Tryz.underlying22 ty45 (by decide) H5 1 hG rfl rfl (rs := [[.int .i64 4, .int .i64 (i : Int), .int .i64 0, .int .i64 0, .int .i64 0, .int .i64 0, .int .i64 0, .slice none 0 0, .int .i64 s.index, .slice D2 s.image.length e2, .int .i64 0, strV [], .int .i64 0, .int .i64 0, .int .i64 0, .int .i64 0]]) (m := 1) rfl rfl (H5.rd (i := 3) (o := some _) (xs := [.int .i64 4, .int .i64 (i : Int), .int .i64 0, .int .i64 0, .int .i64 0, .int .i64 0, .int .i64 0, .slice none 0 0, .int .i64 s.index, .slice D2 s.image.length e2, .int .i64 0, strV [], .int .i64 0, .int .i64 0, .int .i64 0, .int .i64 0]) (sp := []) rfl rfl (by decide)) (Pl.one rfl) (fun p hp => by rw [List.mem_singleton.1 hp]; rfl) (by omega) (by omega) (by decide)<|fun w6 g cap sp H6 hG=>?_
 obtain ⟨qs, hqn⟩ : ∃ q, q = qs ++ [[.int .i64 4, .int .i64 (i : Int), .int .i64 0, .int .i64 0, .int .i64 0, .int .i64 0, .int .i64 0, .slice none 0 0, .int .i64 s.index, .slice D2 s.image.length e2, .int .i64 0, strV [], .int .i64 0, .int .i64 0, .int .i64 0, .int .i64 0]] := ⟨_, rfl⟩
 rw [← hqn] at hG H6 ⊢
 replace hA : All2 (NtR w0 (fun x => ok x ∧ x < w0.heap.size)) qs (gN (b.groups.take i) ++ imgs i s) := by
   rw [hqn, him]
   exact hA.app (All2.one ⟨none, 0, D2, e2, rfl, Bs.none _ _, hm⟩)
 clear hqn
 refine Xa rfl<|Xr e96<|J1<|Rq<|Xa rfl<|Xr e96<|J7<|run_loop (fun nQ lQ w => ∃ (q : Nat) (z : Int) (g : Option Nat) (cap : Nat) (qs : List (List Value)) (sp : List Value), s.entries.length - q = nQ ∧ Fits [none, some (.pointer (some ⟨gb, 0, none⟩)), none, some (.slice (hd g) qs.length cap), some (.int .i64 (i : Int)), some (.pointer (some ⟨g5, 0, none⟩)), some (.int .i64 z), none, none, none, none, none, none, none, none, none, none, none, none, none, none, none, none, none, none, none, none, none, none, none, none, none, none, none, none, none, none, none, none, none, none, none, none, none, none, none, none, none, none, none, none, none, none, none, none, none, none, none, none, none, none, none, none, none, none, none, none, none, none, none, none, none, none, none, none, none, none, none, none, none, none, none, none, none, none, none, none, none, none, none, none, none, none, none, none, none] lQ ∧ z = (q : Int) ∧ q ≤ s.entries.length ∧ Gw 16 g cap qs sp ∧ All2 (NtR w0 (fun x => ok x ∧ x < w0.heap.size)) qs (gN (b.groups.take i) ++ imgs i s ++ (s.entries.take q).map (ntE i)) ∧ Hp w0 w ([]) [((some gb, 27, [.slice (some a1) b.groups.length k1, .slice A2 b.rights.length k2, .slice A3 m3 k3]) : Ent), (g, 45, qs.flatten ++ sp), (some g5, 57, [.int .i64 s.p.r, .int .i64 s.p.n, .slice D1 s.votes.length e1, .int .i64 s.index, .slice D2 s.image.length e2, .slice D3 s.entries.length e3])]) (s.entries.length) ?_ ?_
 exact ⟨0, _, g, cap, qs, sp, rfl, (fn (fs (fn (fs (fs (fs (fs (fn (fn (fn (fn (fn (fn (fn (fn (fn (fn (fn (fn (fn (fn (fn (fn (fn (fn (fn (fn (fn (fn (fn (fn (fn (fn (fn (fn (fn (fn (fn (fn (fn (fn (fn (fn (fn (fn (fn (fn (fn (fn (fn (fn (fn (fn (fn (fn (fn (fn (fn (fn (fn (fn (fn (fn (fn (fn (fn (fn (fn (fn (fn (fn (fn (fn (fn (fn (fn (fn (fn (fn (fn (fn (fn (fn (fn (fn (fn (fn (fn (fn (fn (fn (fn (fn (fn (fn (fn f0)))))))))))))))))))))))))))))))))))))))))))))))))))))))))))))))))))))))))))))))))))))))))))))))), rfl, Nat.zero_le _, hG, by simpa using hA, H6.pick [0, 1, 2] (by decide)⟩
 rintro nQ lQ w7 ⟨q, z, g, cap, qs, sp, rfl, hfit, rfl, hqi, hG, hA, H7⟩
 obtain ⟨j, rfl⟩ := hfit.open
 refine cR e96 ?_
 clear hfit
 refine J1<|Rq<|Xm rfl<|Xf fl57_4 rfl<|OV (EL ty55 rfl (H7.cell (i := 2) rfl rfl))<|OV (ES Tryz.underlying55 rfl)<|cOp e96<|OT (ex_lss rfl rfl) (fun hp38 => ?_) (fun hp38 => ?_)
 have hqv : q < s.entries.length := by omega
 obtain ⟨v, hxv⟩ := get_of hqv
 obtain ⟨pv, hpv1, hRv⟩ := h2e.get hxv
 obtain ⟨G1, f1, rfl, hbv⟩ := hRv
 obtain ⟨a3, ha3⟩ := hre.some_ (by omega)
 subst ha3
 have hql := hA.len
 try simp only [List.length_append, List.length_map, List.length_take] at hql
 refine Xr e96<|J3 rfl<|J6<|J1<|J7<|J2<|Xm rfl<|Xm rfl<|Xf fl57_4 rfl<|OV (EL ty55 rfl (H7.cell (i := 2) rfl rfl))<|cOp e96<|Xm rfl<|OV (EI Tryz.underlying55 ty41 rfl rfl rfl hqv rfl)<|OV (EN ty41 rfl (vs := [.int .i64 v.slot, .slice G1 v.val.length f1]) rfl (((hre.move (by decide) hae H7 hkS).1).elem hpe hpv1))<|OV (EB ty45 pl45 rfl (cs := [.int .i64 3, .int .i64 (i : Int), .int .i64 0, .int .i64 0, .int .i64 0, .int .i64 0, .int .i64 0, .slice none 0 0, .int .i64 v.slot, .slice G1 v.val.length f1, .int .i64 0, strV [], .int .i64 0, .int .i64 0, .int .i64 0, .int .i64 0]) (by kernel_rfl))<|cOp e96<|ops_buildSlice Tryz.underlying22 ty45 H7 (cs := [.int .i64 3, .int .i64 (i : Int), .int .i64 0, .int .i64 0, .int .i64 0, .int .i64 0, .int .i64 0, .slice none 0 0, .int .i64 v.slot, .slice G1 v.val.length f1, .int .i64 0, strV [], .int .i64 0, .int .i64 0, .int .i64 0, .int .i64 0]) rfl (by decide) (by kernel_rfl)<|fun w8 gk H8 _=>ops_grow Tryz.underlying22 ty45 (by decide) H8 1 hG rfl rfl (rs := [[.int .i64 3, .int .i64 (i : Int), .int .i64 0, .int .i64 0, .int .i64 0, .int .i64 0, .int .i64 0, .slice none 0 0, .int .i64 v.slot, .slice G1 v.val.length f1, .int .i64 0, strV [], .int .i64 0, .int .i64 0, .int .i64 0, .int .i64 0]]) (m := 1) rfl rfl (H8.rd (i := 3) (o := some _) (xs := [.int .i64 3, .int .i64 (i : Int), .int .i64 0, .int .i64 0, .int .i64 0, .int .i64 0, .int .i64 0, .slice none 0 0, .int .i64 v.slot, .slice G1 v.val.length f1, .int .i64 0, strV [], .int .i64 0, .int .i64 0, .int .i64 0, .int .i64 0]) (sp := []) rfl rfl (by decide)) (Pl.one rfl) (fun p hp => by rw [List.mem_singleton.1 hp]; rfl) (by omega) (by omega) (by decide)<|fun w9 g cap sp H9 hG=>Xa rfl<|Xr e96<|run_nil (blk_normal ?_)
 refine J2<|Xm rfl<|OV (ex_add rfl rfl (IntWalk.i64_in _ (by omega)))<|Xa rfl<|Xr e96<|run_nil (rnd_normal ?_)
 exact ⟨s.entries.length - (q + 1), by omega, q + 1, _, g, cap, _, sp, rfl, (fn (fs (fn (fs (fs (fs (fs (fn (fn (fn (fn (fn (fn (fn (fn (fn (fn (fn (fn (fn (fn (fn (fn (fn (fn (fn (fn (fn (fn (fn (fn (fn (fn (fn (fn (fn (fn (fn (fn (fn (fn (fn (fn (fn (fn (fn (fn (fn (fn (fn (fn (fn (fn (fn (fn (fn (fn (fn (fn (fn (fn (fn (fn (fn (fn (fn (fn (fn (fn (fn (fn (fn (fn (fn (fn (fn (fn (fn (fn (fn (fn (fn (fn (fn (fn (fn (fn (fn (fn (fn (fn (fn (fn (fn (fn (fn f0)))))))))))))))))))))))))))))))))))))))))))))))))))))))))))))))))))))))))))))))))))))))))))))))), by omega, by omega, hG, by rw [take_snoc hxv, List.map_append, ← List.append_assoc]; exact hA.app (All2.one ⟨none, 0, _, _, rfl, Bs.none _ _, hbv⟩), H9.pick [0, 1, 2] (by decide)⟩
 obtain rfl : q = s.entries.length := by omega
 rw [List.take_length] at hA
 refine Xr e96<|J4 rfl<|J8<|rnd_exit<|blk_exit<|J1<|Rq<|Xf fl57_0 rfl<|OV (EN ty36 rfl (vs := [.int .i64 s.p.r, .int .i64 s.p.n]) rfl (H7.cellsR (i := 2) rfl rfl))<|OV (EB ty36 pl36 rfl rfl)<|OT (ex_neq_bal rfl rfl) (fun hp54 => ?_) (fun hp54 => ?_)
 have hpm : prms i s = [ntP i s.p] := if_pos hp54
 have hil2 : (prms i s).length = 1 := by rw [hpm]; rfl
 have hql := hA.len
 try simp only [List.length_append, List.length_map, List.length_take] at hql
 refine Xr e96<|J3 rfl<|J2<|Xm rfl<|Xm rfl<|Xf fl57_0 rfl<|OV (EN ty36 rfl (vs := [.int .i64 s.p.r, .int .i64 s.p.n]) rfl (H7.cellsR (i := 2) rfl rfl))<|cOp e96<|OV (EB ty45 pl45 rfl (cs := [.int .i64 1, .int .i64 (i : Int), .int .i64 s.p.r, .int .i64 s.p.n, .int .i64 0, .int .i64 0, .int .i64 0, .slice none 0 0, .int .i64 0, .slice none 0 0, .int .i64 0, strV [], .int .i64 0, .int .i64 0, .int .i64 0, .int .i64 0]) (by kernel_rfl))<|ops_buildSlice Tryz.underlying22 ty45 H7 (cs := [.int .i64 1, .int .i64 (i : Int), .int .i64 s.p.r, .int .i64 s.p.n, .int .i64 0, .int .i64 0, .int .i64 0, .slice none 0 0, .int .i64 0, .slice none 0 0, .int .i64 0, strV [], .int .i64 0, .int .i64 0, .int .i64 0, .int .i64 0]) rfl (by decide) (by kernel_rfl)<|fun w8 gk H8 _=>ops_grow Tryz.underlying22 ty45 (by decide) H8 1 hG rfl rfl (rs := [[.int .i64 1, .int .i64 (i : Int), .int .i64 s.p.r, .int .i64 s.p.n, .int .i64 0, .int .i64 0, .int .i64 0, .slice none 0 0, .int .i64 0, .slice none 0 0, .int .i64 0, strV [], .int .i64 0, .int .i64 0, .int .i64 0, .int .i64 0]]) (m := 1) rfl rfl (H8.rd (i := 3) (o := some _) (xs := [.int .i64 1, .int .i64 (i : Int), .int .i64 s.p.r, .int .i64 s.p.n, .int .i64 0, .int .i64 0, .int .i64 0, .slice none 0 0, .int .i64 0, .slice none 0 0, .int .i64 0, strV [], .int .i64 0, .int .i64 0, .int .i64 0, .int .i64 0]) (sp := []) rfl rfl (by decide)) (Pl.one rfl) (fun p hp => by rw [List.mem_singleton.1 hp]; rfl) (by omega) (by omega) (by decide)<|fun w9 g cap sp H9 hG=>?_
 obtain ⟨qs, hqn⟩ : ∃ q, q = qs ++ [[.int .i64 1, .int .i64 (i : Int), .int .i64 s.p.r, .int .i64 s.p.n, .int .i64 0, .int .i64 0, .int .i64 0, .slice none 0 0, .int .i64 0, .slice none 0 0, .int .i64 0, strV [], .int .i64 0, .int .i64 0, .int .i64 0, .int .i64 0]] := ⟨_, rfl⟩
 rw [← hqn] at hG H9 ⊢
 replace hA : All2 (NtR w0 (fun x => ok x ∧ x < w0.heap.size)) qs (gN (b.groups.take i) ++ imgs i s ++ s.entries.map (ntE i) ++ prms i s) := by
   rw [hqn, hpm]
   exact hA.app (All2.one ⟨none, 0, none, 0, rfl, Bs.none _ _, Bs.none _ _⟩)
 clear hqn
 refine Xa rfl<|Xr e96<|Rq<|Xa rfl<|Xr e96<|J7<|run_loop (fun nQ lQ w => ∃ (q : Nat) (z : Int) (g : Option Nat) (cap : Nat) (qs : List (List Value)) (sp : List Value), s.votes.length - q = nQ ∧ Fits [none, some (.pointer (some ⟨gb, 0, none⟩)), none, some (.slice (hd g) qs.length cap), some (.int .i64 (i : Int)), some (.pointer (some ⟨g5, 0, none⟩)), none, some (.int .i64 z), none, none, none, none, none, none, none, none, none, none, none, none, none, none, none, none, none, none, none, none, none, none, none, none, none, none, none, none, none, none, none, none, none, none, none, none, none, none, none, none, none, none, none, none, none, none, none, none, none, none, none, none, none, none, none, none, none, none, none, none, none, none, none, none, none, none, none, none, none, none, none, none, none, none, none, none, none, none, none, none, none, none, none, none, none, none, none, none] lQ ∧ z = (q : Int) ∧ q ≤ s.votes.length ∧ Gw 16 g cap qs sp ∧ All2 (NtR w0 (fun x => ok x ∧ x < w0.heap.size)) qs (gN (b.groups.take i) ++ imgs i s ++ s.entries.map (ntE i) ++ prms i s ++ (s.votes.take q).map (ntV i)) ∧ Hp w0 w ([]) [((some gb, 27, [.slice (some a1) b.groups.length k1, .slice A2 b.rights.length k2, .slice A3 m3 k3]) : Ent), (g, 45, qs.flatten ++ sp), (some g5, 57, [.int .i64 s.p.r, .int .i64 s.p.n, .slice D1 s.votes.length e1, .int .i64 s.index, .slice D2 s.image.length e2, .slice D3 s.entries.length e3])]) (s.votes.length) ?_ ?_
 exact ⟨0, _, g, cap, qs, sp, rfl, (fn (fs (fn (fs (fs (fs (fn (fs (fn (fn (fn (fn (fn (fn (fn (fn (fn (fn (fn (fn (fn (fn (fn (fn (fn (fn (fn (fn (fn (fn (fn (fn (fn (fn (fn (fn (fn (fn (fn (fn (fn (fn (fn (fn (fn (fn (fn (fn (fn (fn (fn (fn (fn (fn (fn (fn (fn (fn (fn (fn (fn (fn (fn (fn (fn (fn (fn (fn (fn (fn (fn (fn (fn (fn (fn (fn (fn (fn (fn (fn (fn (fn (fn (fn (fn (fn (fn (fn (fn (fn (fn (fn (fn (fn (fn (fn f0)))))))))))))))))))))))))))))))))))))))))))))))))))))))))))))))))))))))))))))))))))))))))))))))), rfl, Nat.zero_le _, hG, by simpa using hA, H9.pick [0, 1, 2] (by decide)⟩
 rintro nQ lQ w10 ⟨q, z, g, cap, qs, sp, rfl, hfit, rfl, hqi, hG, hA, H10⟩
 obtain ⟨j, rfl⟩ := hfit.open
 refine cR e96 ?_
 clear hfit
 refine J1<|Rq<|Xm rfl<|Xf fl57_1 rfl<|OV (EL ty54 rfl (H10.cell (i := 2) rfl rfl))<|OV (ES Tryz.underlying54 rfl)<|cOp e96<|OT (ex_lss rfl rfl) (fun hp66 => ?_) (fun hp66 => ?_)
 have hqv : q < s.votes.length := by omega
 obtain ⟨v, hxv⟩ := get_of hqv
 obtain ⟨pv, hpv1, hRv⟩ := h2v.get hxv
 obtain ⟨G1, f1, rfl, hbv⟩ := hRv
 obtain ⟨a3, ha3⟩ := hrv.some_ (by omega)
 subst ha3
 have hql := hA.len
 try simp only [List.length_append, List.length_map, List.length_take] at hql
 refine Xr e96<|J3 rfl<|J6<|J1<|J7<|J2<|Xm rfl<|Xm rfl<|Xf fl57_1 rfl<|OV (EL ty54 rfl (H10.cell (i := 2) rfl rfl))<|cOp e96<|Xm rfl<|OV (EI Tryz.underlying54 ty39 rfl rfl rfl hqv rfl)<|OV (EN ty39 rfl (vs := [.int .i64 v.slot, .int .i64 v.b.r, .int .i64 v.b.n, .slice G1 v.val.length f1]) rfl (((hrv.move (by decide) hav H10 hkS).1).elem hpv hpv1))<|OV (EB ty45 pl45 rfl (cs := [.int .i64 2, .int .i64 (i : Int), .int .i64 0, .int .i64 0, .int .i64 v.slot, .int .i64 v.b.r, .int .i64 v.b.n, .slice G1 v.val.length f1, .int .i64 0, .slice none 0 0, .int .i64 0, strV [], .int .i64 0, .int .i64 0, .int .i64 0, .int .i64 0]) (by kernel_rfl))<|cOp e96<|ops_buildSlice Tryz.underlying22 ty45 H10 (cs := [.int .i64 2, .int .i64 (i : Int), .int .i64 0, .int .i64 0, .int .i64 v.slot, .int .i64 v.b.r, .int .i64 v.b.n, .slice G1 v.val.length f1, .int .i64 0, .slice none 0 0, .int .i64 0, strV [], .int .i64 0, .int .i64 0, .int .i64 0, .int .i64 0]) rfl (by decide) (by kernel_rfl)<|fun w11 gk H11 _=>ops_grow Tryz.underlying22 ty45 (by decide) H11 1 hG rfl rfl (rs := [[.int .i64 2, .int .i64 (i : Int), .int .i64 0, .int .i64 0, .int .i64 v.slot, .int .i64 v.b.r, .int .i64 v.b.n, .slice G1 v.val.length f1, .int .i64 0, .slice none 0 0, .int .i64 0, strV [], .int .i64 0, .int .i64 0, .int .i64 0, .int .i64 0]]) (m := 1) rfl rfl (H11.rd (i := 3) (o := some _) (xs := [.int .i64 2, .int .i64 (i : Int), .int .i64 0, .int .i64 0, .int .i64 v.slot, .int .i64 v.b.r, .int .i64 v.b.n, .slice G1 v.val.length f1, .int .i64 0, .slice none 0 0, .int .i64 0, strV [], .int .i64 0, .int .i64 0, .int .i64 0, .int .i64 0]) (sp := []) rfl rfl (by decide)) (Pl.one rfl) (fun p hp => by rw [List.mem_singleton.1 hp]; rfl) (by omega) (by omega) (by decide)<|fun w12 g cap sp H12 hG=>Xa rfl<|Xr e96<|run_nil (blk_normal ?_)
 refine J2<|Xm rfl<|OV (ex_add rfl rfl (IntWalk.i64_in _ (by omega)))<|Xa rfl<|Xr e96<|run_nil (rnd_normal ?_)
 exact ⟨s.votes.length - (q + 1), by omega, q + 1, _, g, cap, _, sp, rfl, (fn (fs (fn (fs (fs (fs (fn (fs (fn (fn (fn (fn (fn (fn (fn (fn (fn (fn (fn (fn (fn (fn (fn (fn (fn (fn (fn (fn (fn (fn (fn (fn (fn (fn (fn (fn (fn (fn (fn (fn (fn (fn (fn (fn (fn (fn (fn (fn (fn (fn (fn (fn (fn (fn (fn (fn (fn (fn (fn (fn (fn (fn (fn (fn (fn (fn (fn (fn (fn (fn (fn (fn (fn (fn (fn (fn (fn (fn (fn (fn (fn (fn (fn (fn (fn (fn (fn (fn (fn (fn (fn (fn (fn (fn (fn (fn f0)))))))))))))))))))))))))))))))))))))))))))))))))))))))))))))))))))))))))))))))))))))))))))))))), by omega, by omega, hG, by rw [take_snoc hxv, List.map_append, ← List.append_assoc]; exact hA.app (All2.one ⟨_, _, none, 0, rfl, hbv, Bs.none _ _⟩), H12.pick [0, 1, 2] (by decide)⟩
 obtain rfl : q = s.votes.length := by omega
 rw [List.take_length] at hA
 refine Xr e96<|J4 rfl<|J8<|rnd_exit<|blk_exit<|run_nil (blk_normal ?_)
 refine J2<|Xm rfl<|OV (ex_add rfl rfl (IntWalk.i64_in _ (by omega)))<|Xa rfl<|Xr e96<|run_nil (rnd_normal ?_)
 have hti : (b.groups.take i).length = i := by rw [List.length_take]; omega
 exact ⟨b.groups.length - (i + 1), by omega, i + 1, _, g, cap, qs, sp, rfl, (fn (fs (fn (fs (fs (fn (fn (fn (fn (fn (fn (fn (fn (fn (fn (fn (fn (fn (fn (fn (fn (fn (fn (fn (fn (fn (fn (fn (fn (fn (fn (fn (fn (fn (fn (fn (fn (fn (fn (fn (fn (fn (fn (fn (fn (fn (fn (fn (fn (fn (fn (fn (fn (fn (fn (fn (fn (fn (fn (fn (fn (fn (fn (fn (fn (fn (fn (fn (fn (fn (fn (fn (fn (fn (fn (fn (fn (fn (fn (fn (fn (fn (fn (fn (fn (fn (fn (fn (fn (fn (fn (fn (fn (fn (fn (fn f0)))))))))))))))))))))))))))))))))))))))))))))))))))))))))))))))))))))))))))))))))))))))))))))))), by omega, by omega, hG, by rw [take_snoc hx, gN_snoc, hti]; unfold svN; simpa only [List.append_assoc] using hA, H10.pick [0, 1] (by decide)⟩
 have hpm : prms i s = [] := if_neg hp54
 replace hA : All2 (NtR w0 (fun x => ok x ∧ x < w0.heap.size)) qs (gN (b.groups.take i) ++ imgs i s ++ s.entries.map (ntE i) ++ prms i s) := by rw [hpm, List.append_nil]; exact hA
 refine Xr e96<|J4 rfl<|J6<|Rq<|Xa rfl<|Xr e96<|J7<|run_loop (fun nQ lQ w => ∃ (q : Nat) (z : Int) (g : Option Nat) (cap : Nat) (qs : List (List Value)) (sp : List Value), s.votes.length - q = nQ ∧ Fits [none, some (.pointer (some ⟨gb, 0, none⟩)), none, some (.slice (hd g) qs.length cap), some (.int .i64 (i : Int)), some (.pointer (some ⟨g5, 0, none⟩)), none, some (.int .i64 z), none, none, none, none, none, none, none, none, none, none, none, none, none, none, none, none, none, none, none, none, none, none, none, none, none, none, none, none, none, none, none, none, none, none, none, none, none, none, none, none, none, none, none, none, none, none, none, none, none, none, none, none, none, none, none, none, none, none, none, none, none, none, none, none, none, none, none, none, none, none, none, none, none, none, none, none, none, none, none, none, none, none, none, none, none, none, none, none] lQ ∧ z = (q : Int) ∧ q ≤ s.votes.length ∧ Gw 16 g cap qs sp ∧ All2 (NtR w0 (fun x => ok x ∧ x < w0.heap.size)) qs (gN (b.groups.take i) ++ imgs i s ++ s.entries.map (ntE i) ++ prms i s ++ (s.votes.take q).map (ntV i)) ∧ Hp w0 w ([]) [((some gb, 27, [.slice (some a1) b.groups.length k1, .slice A2 b.rights.length k2, .slice A3 m3 k3]) : Ent), (g, 45, qs.flatten ++ sp), (some g5, 57, [.int .i64 s.p.r, .int .i64 s.p.n, .slice D1 s.votes.length e1, .int .i64 s.index, .slice D2 s.image.length e2, .slice D3 s.entries.length e3])]) (s.votes.length) ?_ ?_
 exact ⟨0, _, g, cap, qs, sp, rfl, (fn (fs (fn (fs (fs (fs (fn (fs (fn (fn (fn (fn (fn (fn (fn (fn (fn (fn (fn (fn (fn (fn (fn (fn (fn (fn (fn (fn (fn (fn (fn (fn (fn (fn (fn (fn (fn (fn (fn (fn (fn (fn (fn (fn (fn (fn (fn (fn (fn (fn (fn (fn (fn (fn (fn (fn (fn (fn (fn (fn (fn (fn (fn (fn (fn (fn (fn (fn (fn (fn (fn (fn (fn (fn (fn (fn (fn (fn (fn (fn (fn (fn (fn (fn (fn (fn (fn (fn (fn (fn (fn (fn (fn (fn (fn (fn f0)))))))))))))))))))))))))))))))))))))))))))))))))))))))))))))))))))))))))))))))))))))))))))))))), rfl, Nat.zero_le _, hG, by simpa using hA, H7.pick [0, 1, 2] (by decide)⟩
 rintro nQ lQ w8 ⟨q, z, g, cap, qs, sp, rfl, hfit, rfl, hqi, hG, hA, H8⟩
 obtain ⟨j, rfl⟩ := hfit.open
 refine cR e96 ?_
 clear hfit
 refine J1<|Rq<|Xm rfl<|Xf fl57_1 rfl<|OV (EL ty54 rfl (H8.cell (i := 2) rfl rfl))<|OV (ES Tryz.underlying54 rfl)<|cOp e96<|OT (ex_lss rfl rfl) (fun hp66 => ?_) (fun hp66 => ?_)
 have hqv : q < s.votes.length := by omega
 obtain ⟨v, hxv⟩ := get_of hqv
 obtain ⟨pv, hpv1, hRv⟩ := h2v.get hxv
 obtain ⟨G1, f1, rfl, hbv⟩ := hRv
 obtain ⟨a3, ha3⟩ := hrv.some_ (by omega)
 subst ha3
 have hql := hA.len
 try simp only [List.length_append, List.length_map, List.length_take] at hql
 refine Xr e96<|J3 rfl<|J6<|J1<|J7<|J2<|Xm rfl<|Xm rfl<|Xf fl57_1 rfl<|OV (EL ty54 rfl (H8.cell (i := 2) rfl rfl))<|cOp e96<|Xm rfl<|OV (EI Tryz.underlying54 ty39 rfl rfl rfl hqv rfl)<|OV (EN ty39 rfl (vs := [.int .i64 v.slot, .int .i64 v.b.r, .int .i64 v.b.n, .slice G1 v.val.length f1]) rfl (((hrv.move (by decide) hav H8 hkS).1).elem hpv hpv1))<|OV (EB ty45 pl45 rfl (cs := [.int .i64 2, .int .i64 (i : Int), .int .i64 0, .int .i64 0, .int .i64 v.slot, .int .i64 v.b.r, .int .i64 v.b.n, .slice G1 v.val.length f1, .int .i64 0, .slice none 0 0, .int .i64 0, strV [], .int .i64 0, .int .i64 0, .int .i64 0, .int .i64 0]) (by kernel_rfl))<|cOp e96<|ops_buildSlice Tryz.underlying22 ty45 H8 (cs := [.int .i64 2, .int .i64 (i : Int), .int .i64 0, .int .i64 0, .int .i64 v.slot, .int .i64 v.b.r, .int .i64 v.b.n, .slice G1 v.val.length f1, .int .i64 0, .slice none 0 0, .int .i64 0, strV [], .int .i64 0, .int .i64 0, .int .i64 0, .int .i64 0]) rfl (by decide) (by kernel_rfl)<|fun w9 gk H9 _=>ops_grow Tryz.underlying22 ty45 (by decide) H9 1 hG rfl rfl (rs := [[.int .i64 2, .int .i64 (i : Int), .int .i64 0, .int .i64 0, .int .i64 v.slot, .int .i64 v.b.r, .int .i64 v.b.n, .slice G1 v.val.length f1, .int .i64 0, .slice none 0 0, .int .i64 0, strV [], .int .i64 0, .int .i64 0, .int .i64 0, .int .i64 0]]) (m := 1) rfl rfl (H9.rd (i := 3) (o := some _) (xs := [.int .i64 2, .int .i64 (i : Int), .int .i64 0, .int .i64 0, .int .i64 v.slot, .int .i64 v.b.r, .int .i64 v.b.n, .slice G1 v.val.length f1, .int .i64 0, .slice none 0 0, .int .i64 0, strV [], .int .i64 0, .int .i64 0, .int .i64 0, .int .i64 0]) (sp := []) rfl rfl (by decide)) (Pl.one rfl) (fun p hp => by rw [List.mem_singleton.1 hp]; rfl) (by omega) (by omega) (by decide)<|fun w10 g cap sp H10 hG=>Xa rfl<|Xr e96<|run_nil (blk_normal ?_)
 refine J2<|Xm rfl<|OV (ex_add rfl rfl (IntWalk.i64_in _ (by omega)))<|Xa rfl<|Xr e96<|run_nil (rnd_normal ?_)
 exact ⟨s.votes.length - (q + 1), by omega, q + 1, _, g, cap, _, sp, rfl, (fn (fs (fn (fs (fs (fs (fn (fs (fn (fn (fn (fn (fn (fn (fn (fn (fn (fn (fn (fn (fn (fn (fn (fn (fn (fn (fn (fn (fn (fn (fn (fn (fn (fn (fn (fn (fn (fn (fn (fn (fn (fn (fn (fn (fn (fn (fn (fn (fn (fn (fn (fn (fn (fn (fn (fn (fn (fn (fn (fn (fn (fn (fn (fn (fn (fn (fn (fn (fn (fn (fn (fn (fn (fn (fn (fn (fn (fn (fn (fn (fn (fn (fn (fn (fn (fn (fn (fn (fn (fn (fn (fn (fn (fn (fn (fn f0)))))))))))))))))))))))))))))))))))))))))))))))))))))))))))))))))))))))))))))))))))))))))))))))), by omega, by omega, hG, by rw [take_snoc hxv, List.map_append, ← List.append_assoc]; exact hA.app (All2.one ⟨_, _, none, 0, rfl, hbv, Bs.none _ _⟩), H10.pick [0, 1, 2] (by decide)⟩
 obtain rfl : q = s.votes.length := by omega
 rw [List.take_length] at hA
 refine Xr e96<|J4 rfl<|J8<|rnd_exit<|blk_exit<|run_nil (blk_normal ?_)
 refine J2<|Xm rfl<|OV (ex_add rfl rfl (IntWalk.i64_in _ (by omega)))<|Xa rfl<|Xr e96<|run_nil (rnd_normal ?_)
 have hti : (b.groups.take i).length = i := by rw [List.length_take]; omega
 exact ⟨b.groups.length - (i + 1), by omega, i + 1, _, g, cap, qs, sp, rfl, (fn (fs (fn (fs (fs (fn (fn (fn (fn (fn (fn (fn (fn (fn (fn (fn (fn (fn (fn (fn (fn (fn (fn (fn (fn (fn (fn (fn (fn (fn (fn (fn (fn (fn (fn (fn (fn (fn (fn (fn (fn (fn (fn (fn (fn (fn (fn (fn (fn (fn (fn (fn (fn (fn (fn (fn (fn (fn (fn (fn (fn (fn (fn (fn (fn (fn (fn (fn (fn (fn (fn (fn (fn (fn (fn (fn (fn (fn (fn (fn (fn (fn (fn (fn (fn (fn (fn (fn (fn (fn (fn (fn (fn (fn (fn (fn f0)))))))))))))))))))))))))))))))))))))))))))))))))))))))))))))))))))))))))))))))))))))))))))))))), by omega, by omega, hG, by rw [take_snoc hx, gN_snoc, hti]; unfold svN; simpa only [List.append_assoc] using hA, H8.pick [0, 1] (by decide)⟩
 have him : imgs i s = [] := if_neg hp23
 replace hA : All2 (NtR w0 (fun x => ok x ∧ x < w0.heap.size)) qs (gN (b.groups.take i) ++ imgs i s) := by rw [him, List.append_nil]; exact hA
 refine Xr e96<|J4 rfl<|J6<|J1<|Rq<|Xa rfl<|Xr e96<|J7<|run_loop (fun nQ lQ w => ∃ (q : Nat) (z : Int) (g : Option Nat) (cap : Nat) (qs : List (List Value)) (sp : List Value), s.entries.length - q = nQ ∧ Fits [none, some (.pointer (some ⟨gb, 0, none⟩)), none, some (.slice (hd g) qs.length cap), some (.int .i64 (i : Int)), some (.pointer (some ⟨g5, 0, none⟩)), some (.int .i64 z), none, none, none, none, none, none, none, none, none, none, none, none, none, none, none, none, none, none, none, none, none, none, none, none, none, none, none, none, none, none, none, none, none, none, none, none, none, none, none, none, none, none, none, none, none, none, none, none, none, none, none, none, none, none, none, none, none, none, none, none, none, none, none, none, none, none, none, none, none, none, none, none, none, none, none, none, none, none, none, none, none, none, none, none, none, none, none, none, none] lQ ∧ z = (q : Int) ∧ q ≤ s.entries.length ∧ Gw 16 g cap qs sp ∧ All2 (NtR w0 (fun x => ok x ∧ x < w0.heap.size)) qs (gN (b.groups.take i) ++ imgs i s ++ (s.entries.take q).map (ntE i)) ∧ Hp w0 w ([]) [((some gb, 27, [.slice (some a1) b.groups.length k1, .slice A2 b.rights.length k2, .slice A3 m3 k3]) : Ent), (g, 45, qs.flatten ++ sp), (some g5, 57, [.int .i64 s.p.r, .int .i64 s.p.n, .slice D1 s.votes.length e1, .int .i64 s.index, .slice D2 s.image.length e2, .slice D3 s.entries.length e3])]) (s.entries.length) ?_ ?_
 exact ⟨0, _, g, cap, qs, sp, rfl, (fn (fs (fn (fs (fs (fs (fs (fn (fn (fn (fn (fn (fn (fn (fn (fn (fn (fn (fn (fn (fn (fn (fn (fn (fn (fn (fn (fn (fn (fn (fn (fn (fn (fn (fn (fn (fn (fn (fn (fn (fn (fn (fn (fn (fn (fn (fn (fn (fn (fn (fn (fn (fn (fn (fn (fn (fn (fn (fn (fn (fn (fn (fn (fn (fn (fn (fn (fn (fn (fn (fn (fn (fn (fn (fn (fn (fn (fn (fn (fn (fn (fn (fn (fn (fn (fn (fn (fn (fn (fn (fn (fn (fn (fn (fn (fn f0)))))))))))))))))))))))))))))))))))))))))))))))))))))))))))))))))))))))))))))))))))))))))))))))), rfl, Nat.zero_le _, hG, by simpa using hA, H4.pick [0, 1, 2] (by decide)⟩
 rintro nQ lQ w5 ⟨q, z, g, cap, qs, sp, rfl, hfit, rfl, hqi, hG, hA, H5⟩
 obtain ⟨j, rfl⟩ := hfit.open
 refine cR e96 ?_
 clear hfit
 refine J1<|Rq<|Xm rfl<|Xf fl57_4 rfl<|OV (EL ty55 rfl (H5.cell (i := 2) rfl rfl))<|OV (ES Tryz.underlying55 rfl)<|cOp e96<|OT (ex_lss rfl rfl) (fun hp38 => ?_) (fun hp38 => ?_)
 have hqv : q < s.entries.length := by omega
 obtain ⟨v, hxv⟩ := get_of hqv
 obtain ⟨pv, hpv1, hRv⟩ := h2e.get hxv
 obtain ⟨G1, f1, rfl, hbv⟩ := hRv
 obtain ⟨a3, ha3⟩ := hre.some_ (by omega)
 subst ha3
 have hql := hA.len
 try simp only [List.length_append, List.length_map, List.length_take] at hql
 refine Xr e96<|J3 rfl<|J6<|J1<|J7<|J2<|Xm rfl<|Xm rfl<|Xf fl57_4 rfl<|OV (EL ty55 rfl (H5.cell (i := 2) rfl rfl))<|cOp e96<|Xm rfl<|OV (EI Tryz.underlying55 ty41 rfl rfl rfl hqv rfl)<|OV (EN ty41 rfl (vs := [.int .i64 v.slot, .slice G1 v.val.length f1]) rfl (((hre.move (by decide) hae H5 hkS).1).elem hpe hpv1))<|OV (EB ty45 pl45 rfl (cs := [.int .i64 3, .int .i64 (i : Int), .int .i64 0, .int .i64 0, .int .i64 0, .int .i64 0, .int .i64 0, .slice none 0 0, .int .i64 v.slot, .slice G1 v.val.length f1, .int .i64 0, strV [], .int .i64 0, .int .i64 0, .int .i64 0, .int .i64 0]) (by kernel_rfl))<|cOp e96<|ops_buildSlice Tryz.underlying22 ty45 H5 (cs := [.int .i64 3, .int .i64 (i : Int), .int .i64 0, .int .i64 0, .int .i64 0, .int .i64 0, .int .i64 0, .slice none 0 0, .int .i64 v.slot, .slice G1 v.val.length f1, .int .i64 0, strV [], .int .i64 0, .int .i64 0, .int .i64 0, .int .i64 0]) rfl (by decide) (by kernel_rfl)<|fun w6 gk H6 _=>ops_grow Tryz.underlying22 ty45 (by decide) H6 1 hG rfl rfl (rs := [[.int .i64 3, .int .i64 (i : Int), .int .i64 0, .int .i64 0, .int .i64 0, .int .i64 0, .int .i64 0, .slice none 0 0, .int .i64 v.slot, .slice G1 v.val.length f1, .int .i64 0, strV [], .int .i64 0, .int .i64 0, .int .i64 0, .int .i64 0]]) (m := 1) rfl rfl (H6.rd (i := 3) (o := some _) (xs := [.int .i64 3, .int .i64 (i : Int), .int .i64 0, .int .i64 0, .int .i64 0, .int .i64 0, .int .i64 0, .slice none 0 0, .int .i64 v.slot, .slice G1 v.val.length f1, .int .i64 0, strV [], .int .i64 0, .int .i64 0, .int .i64 0, .int .i64 0]) (sp := []) rfl rfl (by decide)) (Pl.one rfl) (fun p hp => by rw [List.mem_singleton.1 hp]; rfl) (by omega) (by omega) (by decide)<|fun w7 g cap sp H7 hG=>Xa rfl<|Xr e96<|run_nil (blk_normal ?_)
 refine J2<|Xm rfl<|OV (ex_add rfl rfl (IntWalk.i64_in _ (by omega)))<|Xa rfl<|Xr e96<|run_nil (rnd_normal ?_)
 exact ⟨s.entries.length - (q + 1), by omega, q + 1, _, g, cap, _, sp, rfl, (fn (fs (fn (fs (fs (fs (fs (fn (fn (fn (fn (fn (fn (fn (fn (fn (fn (fn (fn (fn (fn (fn (fn (fn (fn (fn (fn (fn (fn (fn (fn (fn (fn (fn (fn (fn (fn (fn (fn (fn (fn (fn (fn (fn (fn (fn (fn (fn (fn (fn (fn (fn (fn (fn (fn (fn (fn (fn (fn (fn (fn (fn (fn (fn (fn (fn (fn (fn (fn (fn (fn (fn (fn (fn (fn (fn (fn (fn (fn (fn (fn (fn (fn (fn (fn (fn (fn (fn (fn (fn (fn (fn (fn (fn (fn (fn f0)))))))))))))))))))))))))))))))))))))))))))))))))))))))))))))))))))))))))))))))))))))))))))))))), by omega, by omega, hG, by rw [take_snoc hxv, List.map_append, ← List.append_assoc]; exact hA.app (All2.one ⟨none, 0, _, _, rfl, Bs.none _ _, hbv⟩), H7.pick [0, 1, 2] (by decide)⟩
 obtain rfl : q = s.entries.length := by omega
 rw [List.take_length] at hA
 refine Xr e96<|J4 rfl<|J8<|rnd_exit<|blk_exit<|J1<|Rq<|Xf fl57_0 rfl<|OV (EN ty36 rfl (vs := [.int .i64 s.p.r, .int .i64 s.p.n]) rfl (H5.cellsR (i := 2) rfl rfl))<|OV (EB ty36 pl36 rfl rfl)<|OT (ex_neq_bal rfl rfl) (fun hp54 => ?_) (fun hp54 => ?_)
 have hpm : prms i s = [ntP i s.p] := if_pos hp54
 have hil2 : (prms i s).length = 1 := by rw [hpm]; rfl
 have hql := hA.len
 try simp only [List.length_append, List.length_map, List.length_take] at hql
 refine Xr e96<|J3 rfl<|J2<|Xm rfl<|Xm rfl<|Xf fl57_0 rfl<|OV (EN ty36 rfl (vs := [.int .i64 s.p.r, .int .i64 s.p.n]) rfl (H5.cellsR (i := 2) rfl rfl))<|cOp e96<|OV (EB ty45 pl45 rfl (cs := [.int .i64 1, .int .i64 (i : Int), .int .i64 s.p.r, .int .i64 s.p.n, .int .i64 0, .int .i64 0, .int .i64 0, .slice none 0 0, .int .i64 0, .slice none 0 0, .int .i64 0, strV [], .int .i64 0, .int .i64 0, .int .i64 0, .int .i64 0]) (by kernel_rfl))<|ops_buildSlice Tryz.underlying22 ty45 H5 (cs := [.int .i64 1, .int .i64 (i : Int), .int .i64 s.p.r, .int .i64 s.p.n, .int .i64 0, .int .i64 0, .int .i64 0, .slice none 0 0, .int .i64 0, .slice none 0 0, .int .i64 0, strV [], .int .i64 0, .int .i64 0, .int .i64 0, .int .i64 0]) rfl (by decide) (by kernel_rfl)<|fun w6 gk H6 _=>ops_grow Tryz.underlying22 ty45 (by decide) H6 1 hG rfl rfl (rs := [[.int .i64 1, .int .i64 (i : Int), .int .i64 s.p.r, .int .i64 s.p.n, .int .i64 0, .int .i64 0, .int .i64 0, .slice none 0 0, .int .i64 0, .slice none 0 0, .int .i64 0, strV [], .int .i64 0, .int .i64 0, .int .i64 0, .int .i64 0]]) (m := 1) rfl rfl (H6.rd (i := 3) (o := some _) (xs := [.int .i64 1, .int .i64 (i : Int), .int .i64 s.p.r, .int .i64 s.p.n, .int .i64 0, .int .i64 0, .int .i64 0, .slice none 0 0, .int .i64 0, .slice none 0 0, .int .i64 0, strV [], .int .i64 0, .int .i64 0, .int .i64 0, .int .i64 0]) (sp := []) rfl rfl (by decide)) (Pl.one rfl) (fun p hp => by rw [List.mem_singleton.1 hp]; rfl) (by omega) (by omega) (by decide)<|fun w7 g cap sp H7 hG=>?_
 obtain ⟨qs, hqn⟩ : ∃ q, q = qs ++ [[.int .i64 1, .int .i64 (i : Int), .int .i64 s.p.r, .int .i64 s.p.n, .int .i64 0, .int .i64 0, .int .i64 0, .slice none 0 0, .int .i64 0, .slice none 0 0, .int .i64 0, strV [], .int .i64 0, .int .i64 0, .int .i64 0, .int .i64 0]] := ⟨_, rfl⟩
 rw [← hqn] at hG H7 ⊢
 replace hA : All2 (NtR w0 (fun x => ok x ∧ x < w0.heap.size)) qs (gN (b.groups.take i) ++ imgs i s ++ s.entries.map (ntE i) ++ prms i s) := by
   rw [hqn, hpm]
   exact hA.app (All2.one ⟨none, 0, none, 0, rfl, Bs.none _ _, Bs.none _ _⟩)
 clear hqn
 refine Xa rfl<|Xr e96<|Rq<|Xa rfl<|Xr e96<|J7<|run_loop (fun nQ lQ w => ∃ (q : Nat) (z : Int) (g : Option Nat) (cap : Nat) (qs : List (List Value)) (sp : List Value), s.votes.length - q = nQ ∧ Fits [none, some (.pointer (some ⟨gb, 0, none⟩)), none, some (.slice (hd g) qs.length cap), some (.int .i64 (i : Int)), some (.pointer (some ⟨g5, 0, none⟩)), none, some (.int .i64 z), none, none, none, none, none, none, none, none, none, none, none, none, none, none, none, none, none, none, none, none, none, none, none, none, none, none, none, none, none, none, none, none, none, none, none, none, none, none, none, none, none, none, none, none, none, none, none, none, none, none, none, none, none, none, none, none, none, none, none, none, none, none, none, none, none, none, none, none, none, none, none, none, none, none, none, none, none, none, none, none, none, none, none, none, none, none, none, none] lQ ∧ z = (q : Int) ∧ q ≤ s.votes.length ∧ Gw 16 g cap qs sp ∧ All2 (NtR w0 (fun x => ok x ∧ x < w0.heap.size)) qs (gN (b.groups.take i) ++ imgs i s ++ s.entries.map (ntE i) ++ prms i s ++ (s.votes.take q).map (ntV i)) ∧ Hp w0 w ([]) [((some gb, 27, [.slice (some a1) b.groups.length k1, .slice A2 b.rights.length k2, .slice A3 m3 k3]) : Ent), (g, 45, qs.flatten ++ sp), (some g5, 57, [.int .i64 s.p.r, .int .i64 s.p.n, .slice D1 s.votes.length e1, .int .i64 s.index, .slice D2 s.image.length e2, .slice D3 s.entries.length e3])]) (s.votes.length) ?_ ?_
 exact ⟨0, _, g, cap, qs, sp, rfl, (fn (fs (fn (fs (fs (fs (fn (fs (fn (fn (fn (fn (fn (fn (fn (fn (fn (fn (fn (fn (fn (fn (fn (fn (fn (fn (fn (fn (fn (fn (fn (fn (fn (fn (fn (fn (fn (fn (fn (fn (fn (fn (fn (fn (fn (fn (fn (fn (fn (fn (fn (fn (fn (fn (fn (fn (fn (fn (fn (fn (fn (fn (fn (fn (fn (fn (fn (fn (fn (fn (fn (fn (fn (fn (fn (fn (fn (fn (fn (fn (fn (fn (fn (fn (fn (fn (fn (fn (fn (fn (fn (fn (fn (fn (fn (fn f0)))))))))))))))))))))))))))))))))))))))))))))))))))))))))))))))))))))))))))))))))))))))))))))))), rfl, Nat.zero_le _, hG, by simpa using hA, H7.pick [0, 1, 2] (by decide)⟩
 rintro nQ lQ w8 ⟨q, z, g, cap, qs, sp, rfl, hfit, rfl, hqi, hG, hA, H8⟩
 obtain ⟨j, rfl⟩ := hfit.open
 refine cR e96 ?_
 clear hfit
 refine J1<|Rq<|Xm rfl<|Xf fl57_1 rfl<|OV (EL ty54 rfl (H8.cell (i := 2) rfl rfl))<|OV (ES Tryz.underlying54 rfl)<|cOp e96<|OT (ex_lss rfl rfl) (fun hp66 => ?_) (fun hp66 => ?_)
 have hqv : q < s.votes.length := by omega
 obtain ⟨v, hxv⟩ := get_of hqv
 obtain ⟨pv, hpv1, hRv⟩ := h2v.get hxv
 obtain ⟨G1, f1, rfl, hbv⟩ := hRv
 obtain ⟨a3, ha3⟩ := hrv.some_ (by omega)
 subst ha3
 have hql := hA.len
 try simp only [List.length_append, List.length_map, List.length_take] at hql
 refine Xr e96<|J3 rfl<|J6<|J1<|J7<|J2<|Xm rfl<|Xm rfl<|Xf fl57_1 rfl<|OV (EL ty54 rfl (H8.cell (i := 2) rfl rfl))<|cOp e96<|Xm rfl<|OV (EI Tryz.underlying54 ty39 rfl rfl rfl hqv rfl)<|OV (EN ty39 rfl (vs := [.int .i64 v.slot, .int .i64 v.b.r, .int .i64 v.b.n, .slice G1 v.val.length f1]) rfl (((hrv.move (by decide) hav H8 hkS).1).elem hpv hpv1))<|OV (EB ty45 pl45 rfl (cs := [.int .i64 2, .int .i64 (i : Int), .int .i64 0, .int .i64 0, .int .i64 v.slot, .int .i64 v.b.r, .int .i64 v.b.n, .slice G1 v.val.length f1, .int .i64 0, .slice none 0 0, .int .i64 0, strV [], .int .i64 0, .int .i64 0, .int .i64 0, .int .i64 0]) (by kernel_rfl))<|cOp e96<|ops_buildSlice Tryz.underlying22 ty45 H8 (cs := [.int .i64 2, .int .i64 (i : Int), .int .i64 0, .int .i64 0, .int .i64 v.slot, .int .i64 v.b.r, .int .i64 v.b.n, .slice G1 v.val.length f1, .int .i64 0, .slice none 0 0, .int .i64 0, strV [], .int .i64 0, .int .i64 0, .int .i64 0, .int .i64 0]) rfl (by decide) (by kernel_rfl)<|fun w9 gk H9 _=>ops_grow Tryz.underlying22 ty45 (by decide) H9 1 hG rfl rfl (rs := [[.int .i64 2, .int .i64 (i : Int), .int .i64 0, .int .i64 0, .int .i64 v.slot, .int .i64 v.b.r, .int .i64 v.b.n, .slice G1 v.val.length f1, .int .i64 0, .slice none 0 0, .int .i64 0, strV [], .int .i64 0, .int .i64 0, .int .i64 0, .int .i64 0]]) (m := 1) rfl rfl (H9.rd (i := 3) (o := some _) (xs := [.int .i64 2, .int .i64 (i : Int), .int .i64 0, .int .i64 0, .int .i64 v.slot, .int .i64 v.b.r, .int .i64 v.b.n, .slice G1 v.val.length f1, .int .i64 0, .slice none 0 0, .int .i64 0, strV [], .int .i64 0, .int .i64 0, .int .i64 0, .int .i64 0]) (sp := []) rfl rfl (by decide)) (Pl.one rfl) (fun p hp => by rw [List.mem_singleton.1 hp]; rfl) (by omega) (by omega) (by decide)<|fun w10 g cap sp H10 hG=>Xa rfl<|Xr e96<|run_nil (blk_normal ?_)
 refine J2<|Xm rfl<|OV (ex_add rfl rfl (IntWalk.i64_in _ (by omega)))<|Xa rfl<|Xr e96<|run_nil (rnd_normal ?_)
 exact ⟨s.votes.length - (q + 1), by omega, q + 1, _, g, cap, _, sp, rfl, (fn (fs (fn (fs (fs (fs (fn (fs (fn (fn (fn (fn (fn (fn (fn (fn (fn (fn (fn (fn (fn (fn (fn (fn (fn (fn (fn (fn (fn (fn (fn (fn (fn (fn (fn (fn (fn (fn (fn (fn (fn (fn (fn (fn (fn (fn (fn (fn (fn (fn (fn (fn (fn (fn (fn (fn (fn (fn (fn (fn (fn (fn (fn (fn (fn (fn (fn (fn (fn (fn (fn (fn (fn (fn (fn (fn (fn (fn (fn (fn (fn (fn (fn (fn (fn (fn (fn (fn (fn (fn (fn (fn (fn (fn (fn (fn f0)))))))))))))))))))))))))))))))))))))))))))))))))))))))))))))))))))))))))))))))))))))))))))))))), by omega, by omega, hG, by rw [take_snoc hxv, List.map_append, ← List.append_assoc]; exact hA.app (All2.one ⟨_, _, none, 0, rfl, hbv, Bs.none _ _⟩), H10.pick [0, 1, 2] (by decide)⟩
 obtain rfl : q = s.votes.length := by omega
 rw [List.take_length] at hA
 refine Xr e96<|J4 rfl<|J8<|rnd_exit<|blk_exit<|run_nil (blk_normal ?_)
 refine J2<|Xm rfl<|OV (ex_add rfl rfl (IntWalk.i64_in _ (by omega)))<|Xa rfl<|Xr e96<|run_nil (rnd_normal ?_)
 have hti : (b.groups.take i).length = i := by rw [List.length_take]; omega
 exact ⟨b.groups.length - (i + 1), by omega, i + 1, _, g, cap, qs, sp, rfl, (fn (fs (fn (fs (fs (fn (fn (fn (fn (fn (fn (fn (fn (fn (fn (fn (fn (fn (fn (fn (fn (fn (fn (fn (fn (fn (fn (fn (fn (fn (fn (fn (fn (fn (fn (fn (fn (fn (fn (fn (fn (fn (fn (fn (fn (fn (fn (fn (fn (fn (fn (fn (fn (fn (fn (fn (fn (fn (fn (fn (fn (fn (fn (fn (fn (fn (fn (fn (fn (fn (fn (fn (fn (fn (fn (fn (fn (fn (fn (fn (fn (fn (fn (fn (fn (fn (fn (fn (fn (fn (fn (fn (fn (fn (fn (fn f0)))))))))))))))))))))))))))))))))))))))))))))))))))))))))))))))))))))))))))))))))))))))))))))))), by omega, by omega, hG, by rw [take_snoc hx, gN_snoc, hti]; unfold svN; simpa only [List.append_assoc] using hA, H8.pick [0, 1] (by decide)⟩
 have hpm : prms i s = [] := if_neg hp54
 replace hA : All2 (NtR w0 (fun x => ok x ∧ x < w0.heap.size)) qs (gN (b.groups.take i) ++ imgs i s ++ s.entries.map (ntE i) ++ prms i s) := by rw [hpm, List.append_nil]; exact hA
 refine Xr e96<|J4 rfl<|J6<|Rq<|Xa rfl<|Xr e96<|J7<|run_loop (fun nQ lQ w => ∃ (q : Nat) (z : Int) (g : Option Nat) (cap : Nat) (qs : List (List Value)) (sp : List Value), s.votes.length - q = nQ ∧ Fits [none, some (.pointer (some ⟨gb, 0, none⟩)), none, some (.slice (hd g) qs.length cap), some (.int .i64 (i : Int)), some (.pointer (some ⟨g5, 0, none⟩)), none, some (.int .i64 z), none, none, none, none, none, none, none, none, none, none, none, none, none, none, none, none, none, none, none, none, none, none, none, none, none, none, none, none, none, none, none, none, none, none, none, none, none, none, none, none, none, none, none, none, none, none, none, none, none, none, none, none, none, none, none, none, none, none, none, none, none, none, none, none, none, none, none, none, none, none, none, none, none, none, none, none, none, none, none, none, none, none, none, none, none, none, none, none] lQ ∧ z = (q : Int) ∧ q ≤ s.votes.length ∧ Gw 16 g cap qs sp ∧ All2 (NtR w0 (fun x => ok x ∧ x < w0.heap.size)) qs (gN (b.groups.take i) ++ imgs i s ++ s.entries.map (ntE i) ++ prms i s ++ (s.votes.take q).map (ntV i)) ∧ Hp w0 w ([]) [((some gb, 27, [.slice (some a1) b.groups.length k1, .slice A2 b.rights.length k2, .slice A3 m3 k3]) : Ent), (g, 45, qs.flatten ++ sp), (some g5, 57, [.int .i64 s.p.r, .int .i64 s.p.n, .slice D1 s.votes.length e1, .int .i64 s.index, .slice D2 s.image.length e2, .slice D3 s.entries.length e3])]) (s.votes.length) ?_ ?_
 exact ⟨0, _, g, cap, qs, sp, rfl, (fn (fs (fn (fs (fs (fs (fn (fs (fn (fn (fn (fn (fn (fn (fn (fn (fn (fn (fn (fn (fn (fn (fn (fn (fn (fn (fn (fn (fn (fn (fn (fn (fn (fn (fn (fn (fn (fn (fn (fn (fn (fn (fn (fn (fn (fn (fn (fn (fn (fn (fn (fn (fn (fn (fn (fn (fn (fn (fn (fn (fn (fn (fn (fn (fn (fn (fn (fn (fn (fn (fn (fn (fn (fn (fn (fn (fn (fn (fn (fn (fn (fn (fn (fn (fn (fn (fn (fn (fn (fn (fn (fn (fn (fn (fn (fn f0)))))))))))))))))))))))))))))))))))))))))))))))))))))))))))))))))))))))))))))))))))))))))))))))), rfl, Nat.zero_le _, hG, by simpa using hA, H5.pick [0, 1, 2] (by decide)⟩
 rintro nQ lQ w6 ⟨q, z, g, cap, qs, sp, rfl, hfit, rfl, hqi, hG, hA, H6⟩
 obtain ⟨j, rfl⟩ := hfit.open
 refine cR e96 ?_
 clear hfit
 refine J1<|Rq<|Xm rfl<|Xf fl57_1 rfl<|OV (EL ty54 rfl (H6.cell (i := 2) rfl rfl))<|OV (ES Tryz.underlying54 rfl)<|cOp e96<|OT (ex_lss rfl rfl) (fun hp66 => ?_) (fun hp66 => ?_)
 have hqv : q < s.votes.length := by omega
 obtain ⟨v, hxv⟩ := get_of hqv
 obtain ⟨pv, hpv1, hRv⟩ := h2v.get hxv
 obtain ⟨G1, f1, rfl, hbv⟩ := hRv
 obtain ⟨a3, ha3⟩ := hrv.some_ (by omega)
 subst ha3
 have hql := hA.len
 try simp only [List.length_append, List.length_map, List.length_take] at hql
 refine Xr e96<|J3 rfl<|J6<|J1<|J7<|J2<|Xm rfl<|Xm rfl<|Xf fl57_1 rfl<|OV (EL ty54 rfl (H6.cell (i := 2) rfl rfl))<|cOp e96<|Xm rfl<|OV (EI Tryz.underlying54 ty39 rfl rfl rfl hqv rfl)<|OV (EN ty39 rfl (vs := [.int .i64 v.slot, .int .i64 v.b.r, .int .i64 v.b.n, .slice G1 v.val.length f1]) rfl (((hrv.move (by decide) hav H6 hkS).1).elem hpv hpv1))<|OV (EB ty45 pl45 rfl (cs := [.int .i64 2, .int .i64 (i : Int), .int .i64 0, .int .i64 0, .int .i64 v.slot, .int .i64 v.b.r, .int .i64 v.b.n, .slice G1 v.val.length f1, .int .i64 0, .slice none 0 0, .int .i64 0, strV [], .int .i64 0, .int .i64 0, .int .i64 0, .int .i64 0]) (by kernel_rfl))<|cOp e96<|ops_buildSlice Tryz.underlying22 ty45 H6 (cs := [.int .i64 2, .int .i64 (i : Int), .int .i64 0, .int .i64 0, .int .i64 v.slot, .int .i64 v.b.r, .int .i64 v.b.n, .slice G1 v.val.length f1, .int .i64 0, .slice none 0 0, .int .i64 0, strV [], .int .i64 0, .int .i64 0, .int .i64 0, .int .i64 0]) rfl (by decide) (by kernel_rfl)<|fun w7 gk H7 _=>ops_grow Tryz.underlying22 ty45 (by decide) H7 1 hG rfl rfl (rs := [[.int .i64 2, .int .i64 (i : Int), .int .i64 0, .int .i64 0, .int .i64 v.slot, .int .i64 v.b.r, .int .i64 v.b.n, .slice G1 v.val.length f1, .int .i64 0, .slice none 0 0, .int .i64 0, strV [], .int .i64 0, .int .i64 0, .int .i64 0, .int .i64 0]]) (m := 1) rfl rfl (H7.rd (i := 3) (o := some _) (xs := [.int .i64 2, .int .i64 (i : Int), .int .i64 0, .int .i64 0, .int .i64 v.slot, .int .i64 v.b.r, .int .i64 v.b.n, .slice G1 v.val.length f1, .int .i64 0, .slice none 0 0, .int .i64 0, strV [], .int .i64 0, .int .i64 0, .int .i64 0, .int .i64 0]) (sp := []) rfl rfl (by decide)) (Pl.one rfl) (fun p hp => by rw [List.mem_singleton.1 hp]; rfl) (by omega) (by omega) (by decide)<|fun w8 g cap sp H8 hG=>Xa rfl<|Xr e96<|run_nil (blk_normal ?_)
 refine J2<|Xm rfl<|OV (ex_add rfl rfl (IntWalk.i64_in _ (by omega)))<|Xa rfl<|Xr e96<|run_nil (rnd_normal ?_)
 exact ⟨s.votes.length - (q + 1), by omega, q + 1, _, g, cap, _, sp, rfl, (fn (fs (fn (fs (fs (fs (fn (fs (fn (fn (fn (fn (fn (fn (fn (fn (fn (fn (fn (fn (fn (fn (fn (fn (fn (fn (fn (fn (fn (fn (fn (fn (fn (fn (fn (fn (fn (fn (fn (fn (fn (fn (fn (fn (fn (fn (fn (fn (fn (fn (fn (fn (fn (fn (fn (fn (fn (fn (fn (fn (fn (fn (fn (fn (fn (fn (fn (fn (fn (fn (fn (fn (fn (fn (fn (fn (fn (fn (fn (fn (fn (fn (fn (fn (fn (fn (fn (fn (fn (fn (fn (fn (fn (fn (fn (fn f0)))))))))))))))))))))))))))))))))))))))))))))))))))))))))))))))))))))))))))))))))))))))))))))))), by omega, by omega, hG, by rw [take_snoc hxv, List.map_append, ← List.append_assoc]; exact hA.app (All2.one ⟨_, _, none, 0, rfl, hbv, Bs.none _ _⟩), H8.pick [0, 1, 2] (by decide)⟩
 obtain rfl : q = s.votes.length := by omega
 rw [List.take_length] at hA
 refine Xr e96<|J4 rfl<|J8<|rnd_exit<|blk_exit<|run_nil (blk_normal ?_)
 refine J2<|Xm rfl<|OV (ex_add rfl rfl (IntWalk.i64_in _ (by omega)))<|Xa rfl<|Xr e96<|run_nil (rnd_normal ?_)
 have hti : (b.groups.take i).length = i := by rw [List.length_take]; omega
 exact ⟨b.groups.length - (i + 1), by omega, i + 1, _, g, cap, qs, sp, rfl, (fn (fs (fn (fs (fs (fn (fn (fn (fn (fn (fn (fn (fn (fn (fn (fn (fn (fn (fn (fn (fn (fn (fn (fn (fn (fn (fn (fn (fn (fn (fn (fn (fn (fn (fn (fn (fn (fn (fn (fn (fn (fn (fn (fn (fn (fn (fn (fn (fn (fn (fn (fn (fn (fn (fn (fn (fn (fn (fn (fn (fn (fn (fn (fn (fn (fn (fn (fn (fn (fn (fn (fn (fn (fn (fn (fn (fn (fn (fn (fn (fn (fn (fn (fn (fn (fn (fn (fn (fn (fn (fn (fn (fn (fn (fn (fn f0)))))))))))))))))))))))))))))))))))))))))))))))))))))))))))))))))))))))))))))))))))))))))))))))), by omega, by omega, hG, by rw [take_snoc hx, gN_snoc, hti]; unfold svN; simpa only [List.append_assoc] using hA, H6.pick [0, 1] (by decide)⟩
 obtain rfl : i = b.groups.length := by omega
 rw [List.take_length] at hA
 refine Xr e96<|J4 rfl<|J8<|rnd_exit<|blk_exit<|J1<|Rq<|Xa rfl<|Xr e96<|J7<|run_loop (fun nQ lQ w => ∃ (q : Nat) (z : Int) (g : Option Nat) (cap : Nat) (qs : List (List Value)) (sp : List Value), b.rights.length - q = nQ ∧ Fits [none, some (.pointer (some ⟨gb, 0, none⟩)), none, some (.slice (hd g) qs.length cap), none, none, none, none, some (.int .i64 z), none, none, none, none, none, none, none, none, none, none, none, none, none, none, none, none, none, none, none, none, none, none, none, none, none, none, none, none, none, none, none, none, none, none, none, none, none, none, none, none, none, none, none, none, none, none, none, none, none, none, none, none, none, none, none, none, none, none, none, none, none, none, none, none, none, none, none, none, none, none, none, none, none, none, none, none, none, none, none, none, none, none, none, none, none, none, none] lQ ∧ z = (q : Int) ∧ q ≤ b.rights.length ∧ Gw 16 g cap qs sp ∧ All2 (NtR w0 (fun x => ok x ∧ x < w0.heap.size)) qs (gN b.groups ++ (b.rights.take q).map ntF) ∧ Hp w0 w ([]) [((some gb, 27, [.slice (some a1) b.groups.length k1, .slice A2 b.rights.length k2, .slice A3 m3 k3]) : Ent), (g, 45, qs.flatten ++ sp)]) (b.rights.length) ?_ ?_
 exact ⟨0, _, g, cap, qs, sp, rfl, (fn (fs (fn (fs (fn (fn (fn (fn (fs (fn (fn (fn (fn (fn (fn (fn (fn (fn (fn (fn (fn (fn (fn (fn (fn (fn (fn (fn (fn (fn (fn (fn (fn (fn (fn (fn (fn (fn (fn (fn (fn (fn (fn (fn (fn (fn (fn (fn (fn (fn (fn (fn (fn (fn (fn (fn (fn (fn (fn (fn (fn (fn (fn (fn (fn (fn (fn (fn (fn (fn (fn (fn (fn (fn (fn (fn (fn (fn (fn (fn (fn (fn (fn (fn (fn (fn (fn (fn (fn (fn (fn (fn (fn (fn (fn (fn f0)))))))))))))))))))))))))))))))))))))))))))))))))))))))))))))))))))))))))))))))))))))))))))))))), rfl, Nat.zero_le _, hG, by simpa using hA, H2⟩
 rintro nQ lQ w3 ⟨q, z, g, cap, qs, sp, rfl, hfit, rfl, hqi, hG, hA, H3⟩
 obtain ⟨j, rfl⟩ := hfit.open
 refine cR e96 ?_
 clear hfit
 refine J1<|Rq<|Xm rfl<|Xf fl27_1 rfl<|OV (EL ty24 rfl (H3.cell (i := 0) rfl rfl))<|OV (ES Tryz.underlying24 rfl)<|cOp e96<|OT (ex_lss rfl rfl) (fun hp83 => ?_) (fun hp83 => ?_)
 have hqv : q < b.rights.length := by omega
 obtain ⟨v, hxv⟩ := get_of hqv
 obtain ⟨pv, hpv1, hRv⟩ := h2r.get hxv
 unfold RtR at hRv
 subst hRv
 obtain ⟨a3, ha3⟩ := hrr.some_ (by omega)
 subst ha3
 have hnl : b.notes.length = (gN b.groups).length + b.rights.length := by unfold Bo.notes; simp only [List.length_append, List.length_map]
 have hql := hA.len
 try simp only [List.length_append, List.length_map, List.length_take] at hql
 refine Xr e96<|J3 rfl<|J6<|J1<|J7<|J2<|Xm rfl<|Xf fl27_1 rfl<|OV (EL ty24 rfl (H3.cell (i := 0) rfl rfl))<|Xm rfl<|cOp e96<|OV (EI Tryz.underlying24 ty43 rfl rfl rfl hqv rfl)<|OV (EN ty43 rfl (vs := [.int .i64 v.g, strV v.key, .int .i64 v.lease, .int .i64 v.net]) rfl (((hrr.move (by decide) har H3 hkS).1).elem hpr hpv1))<|OV (EB ty45 pl45 rfl (cs := [.int .i64 5, .int .i64 0, .int .i64 0, .int .i64 0, .int .i64 0, .int .i64 0, .int .i64 0, .slice none 0 0, .int .i64 0, .slice none 0 0, .int .i64 v.g, strV v.key, .int .i64 v.lease, .int .i64 v.net, .int .i64 0, .int .i64 0]) (by kernel_rfl))<|ops_buildSlice Tryz.underlying22 ty45 H3 (cs := [.int .i64 5, .int .i64 0, .int .i64 0, .int .i64 0, .int .i64 0, .int .i64 0, .int .i64 0, .slice none 0 0, .int .i64 0, .slice none 0 0, .int .i64 v.g, strV v.key, .int .i64 v.lease, .int .i64 v.net, .int .i64 0, .int .i64 0]) rfl (by decide) (by kernel_rfl)<|fun w4 gk H4 _=>cOp e96<|ops_grow Tryz.underlying22 ty45 (by decide) H4 1 hG rfl rfl (rs := [[.int .i64 5, .int .i64 0, .int .i64 0, .int .i64 0, .int .i64 0, .int .i64 0, .int .i64 0, .slice none 0 0, .int .i64 0, .slice none 0 0, .int .i64 v.g, strV v.key, .int .i64 v.lease, .int .i64 v.net, .int .i64 0, .int .i64 0]]) (m := 1) rfl rfl (H4.rd (i := 2) (o := some _) (xs := [.int .i64 5, .int .i64 0, .int .i64 0, .int .i64 0, .int .i64 0, .int .i64 0, .int .i64 0, .slice none 0 0, .int .i64 0, .slice none 0 0, .int .i64 v.g, strV v.key, .int .i64 v.lease, .int .i64 v.net, .int .i64 0, .int .i64 0]) (sp := []) rfl rfl (by decide)) (Pl.one rfl) (fun p hp => by rw [List.mem_singleton.1 hp]; rfl) (by omega) (by omega) (by decide)<|fun w5 g cap sp H5 hG=>Xa rfl<|Xr e96<|run_nil (blk_normal ?_)
 refine J2<|Xm rfl<|OV (ex_add rfl rfl (IntWalk.i64_in _ (by omega)))<|Xa rfl<|Xr e96<|run_nil (rnd_normal ?_)
 exact ⟨b.rights.length - (q + 1), by omega, q + 1, _, g, cap, _, sp, rfl, (fn (fs (fn (fs (fn (fn (fn (fn (fs (fn (fn (fn (fn (fn (fn (fn (fn (fn (fn (fn (fn (fn (fn (fn (fn (fn (fn (fn (fn (fn (fn (fn (fn (fn (fn (fn (fn (fn (fn (fn (fn (fn (fn (fn (fn (fn (fn (fn (fn (fn (fn (fn (fn (fn (fn (fn (fn (fn (fn (fn (fn (fn (fn (fn (fn (fn (fn (fn (fn (fn (fn (fn (fn (fn (fn (fn (fn (fn (fn (fn (fn (fn (fn (fn (fn (fn (fn (fn (fn (fn (fn (fn (fn (fn (fn (fn f0)))))))))))))))))))))))))))))))))))))))))))))))))))))))))))))))))))))))))))))))))))))))))))))))), by omega, by omega, hG, by rw [take_snoc hxv, List.map_append, ← List.append_assoc]; exact hA.app (All2.one ⟨none, 0, none, 0, rfl, Bs.none _ _, Bs.none _ _⟩), H5.pick [0, 1] (by decide)⟩
 obtain rfl : q = b.rights.length := by omega
 rw [List.take_length] at hA
 refine Xr e96<|J4 rfl<|J8<|rnd_exit<|blk_exit<|Rq<|Xm rfl<|Xa rfl<|Xr e96<|J5<|FN1 rfl rfl ?_
 have hlq : qs.length = b.notes.length := hA.len
 have HW := H3
 rw [hlq]
 exact ⟨hd g, cap, rfl, Sl.row HW (i := 1) rfl hG.2.2.2 (by decide) (hA.imp fun p x h => NtR.to h H3 fun x hx _ => ⟨by simp, .inl hx⟩) (fun k hk => by subst hk; exact .inr (HW.new (i := 1) rfl)), HW.noRows⟩
end Go.Proofs.YtbninklfoogmdaaGreat
/- Walks of layer 2, printed by wip/gen/codec.py. -/
namespace Go.Proofs.YtbninklfoogmdaaGreat
open Go Go.RowKit
set_option linter.unusedVariables false
attribute [local irreducible] Still Ops Does Cd
set_option maxRecDepth 100000 in
set_option maxHeartbeats 4000000 in
theorem plainR (A B : Option Addr) (k k2 : Nat) (l : List Rt) (ok ok2 : Nat → Prop) (w0 : World) (hl : Sl RtR 4 w0 ok A l) (hl2 : Sl RtR 4 w0 ok2 B l) (hn : l.length ≤ 1000000000000000000) : Does Tryz.prog 27 #[.slice A l.length k, .slice B l.length k2] w0 (fun r w' => r = .bool true ∧ Hp w0 w' [] []) := by
 refine does_of Tryz.func27 Tryz.ntmps27 rfl<|cR e26 ?_
 have H := Hp.refl w0
 obtain ⟨ps, hp, hr, _, h2⟩ := hl
 obtain ⟨qs, hq, hrb, _, h2b⟩ := hl2
 refine Rq<|Xa rfl<|Xr e26<|J1<|Rq<|Xm rfl<|OV (ES Tryz.underlying24 rfl)<|Xm rfl<|OV (ES Tryz.underlying24 rfl)<|cOp e26<|OT0 (ex_neq rfl rfl) (fun h => h rfl)<|Xr e26<|J4 rfl<|J6<|J1<|Rq<|Xa rfl<|Xr e26<|J7<|run_loop (fun nQ lQ w => ∃ (i : Nat) (y : Int), l.length - i = nQ ∧ Fits [some (.slice A l.length k), some (.slice B l.length k2), none, none, none, some (.int .i64 y), none, none, none, none, none, none, none, none, none, none, none, none, none, none, none, none, none, none, none, none] lQ ∧ y = (i : Int) ∧ i ≤ l.length ∧ Hp w0 w [] []) (l.length) ?_ ?_
 exact ⟨0, _, rfl, (fs (fs (fn (fn (fn (fs (fn (fn (fn (fn (fn (fn (fn (fn (fn (fn (fn (fn (fn (fn (fn (fn (fn (fn (fn (fn f0)))))))))))))))))))))))))), rfl, Nat.zero_le _, H⟩
 rintro nQ lQ w1 ⟨i, y, rfl, hfit, rfl, hi, H1⟩
 obtain ⟨j, rfl⟩ := hfit.open
 refine cR e26 ?_
 clear hfit
 refine J1<|Rq<|Xm rfl<|Xm rfl<|OV (ES Tryz.underlying24 rfl)<|OT (ex_lss rfl rfl) (fun hp14 => ?_) (fun hp14 => ?_)
 have hil : i < l.length := by omega
 obtain ⟨x, hx⟩ := get_of hil
 obtain ⟨p1, hp1, hR⟩ := h2.get hx
 obtain ⟨p2, hp2, hR2⟩ := h2b.get hx
 obtain ⟨a1, ha1⟩ := hr.some_ (by omega)
 obtain ⟨a2, ha2⟩ := hrb.some_ (by omega)
 subst ha1 ha2
 unfold RtR at hR hR2
 subst hR hR2
 refine Xr e26<|J3 rfl<|J6<|J1<|J7<|J1<|run_still mixed (by kernel_rfl) ?_
 rintro w2 hw2
 have H2 := Hp.drew H1; rw [← hw2] at H2
 refine SV (ex_move rfl)<|SV (ex_move rfl)<|SV (EI Tryz.underlying24 ty43 rfl rfl (len := l.length) (i := i) (by omega) (by omega) rfl)<|SV (EN ty43 rfl (vs := [.int .i64 x.g, strV x.key, .int .i64 x.lease, .int .i64 x.net]) rfl ((hr.to0 H2).elem hp hp1))<|cStl e26<|SV (ex_move rfl)<|SV (ex_move rfl)<|SV (EI Tryz.underlying24 ty43 rfl rfl (len := l.length) (i := i) (by omega) (by omega) rfl)<|SV (EN ty43 rfl (vs := [.int .i64 x.g, strV x.key, .int .i64 x.lease, .int .i64 x.net]) rfl ((hrb.to0 H2).elem hq hp2))<|cStl e26<|SV (ex_neq_rt rfl rfl)<|still_nil<|cR e26<|J4 rfl<|J6<|run_nil (blk_normal ?_)
 refine J2<|Xm rfl<|OV (ex_add rfl rfl (IntWalk.i64_in _ (by omega)))<|Xa rfl<|Xr e26<|run_nil (rnd_normal ?_)
 exact ⟨l.length - (i + 1), by omega, i + 1, _, rfl, (fs (fs (fn (fn (fn (fs (fn (fn (fn (fn (fn (fn (fn (fn (fn (fn (fn (fn (fn (fn (fn (fn (fn (fn (fn (fn f0)))))))))))))))))))))))))), by omega, by omega, H2.noRows⟩
 refine Xr e26<|J4 rfl<|J8<|rnd_exit<|blk_exit<|Rq<|Xa rfl<|Xr e26<|J5<|FN1 rfl rfl<|⟨rfl, H1.noRows⟩
set_option maxRecDepth 100000 in
set_option maxHeartbeats 4000000 in
theorem plainM (A B : Option Addr) (k k2 : Nat) (l : List Mk) (ok ok2 : Nat → Prop) (w0 : World) (hl : Sl MkR 7 w0 ok A l) (hl2 : Sl MkR 7 w0 ok2 B l) (hn : l.length ≤ 1000000000000000000) : Does Tryz.prog 30 #[.slice A l.length k, .slice B l.length k2] w0 (fun r w' => r = .bool true ∧ Hp w0 w' [] []) := by
 refine does_of Tryz.func30 Tryz.ntmps30 rfl<|cR e26 ?_
 have H := Hp.refl w0
 obtain ⟨ps, hp, hr, _, h2⟩ := hl
 obtain ⟨qs, hq, hrb, _, h2b⟩ := hl2
 refine Rq<|Xa rfl<|Xr e26<|J1<|Rq<|Xm rfl<|OV (ES Tryz.underlying25 rfl)<|Xm rfl<|OV (ES Tryz.underlying25 rfl)<|cOp e26<|OT0 (ex_neq rfl rfl) (fun h => h rfl)<|Xr e26<|J4 rfl<|J6<|J1<|Rq<|Xa rfl<|Xr e26<|J7<|run_loop (fun nQ lQ w => ∃ (i : Nat) (y : Int), l.length - i = nQ ∧ Fits [some (.slice A l.length k), some (.slice B l.length k2), none, none, none, some (.int .i64 y), none, none, none, none, none, none, none, none, none, none, none, none, none, none, none, none, none, none, none, none] lQ ∧ y = (i : Int) ∧ i ≤ l.length ∧ Hp w0 w [] []) (l.length) ?_ ?_
 exact ⟨0, _, rfl, (fs (fs (fn (fn (fn (fs (fn (fn (fn (fn (fn (fn (fn (fn (fn (fn (fn (fn (fn (fn (fn (fn (fn (fn (fn (fn f0)))))))))))))))))))))))))), rfl, Nat.zero_le _, H⟩
 rintro nQ lQ w1 ⟨i, y, rfl, hfit, rfl, hi, H1⟩
 obtain ⟨j, rfl⟩ := hfit.open
 refine cR e26 ?_
 clear hfit
 refine J1<|Rq<|Xm rfl<|Xm rfl<|OV (ES Tryz.underlying25 rfl)<|OT (ex_lss rfl rfl) (fun hp14 => ?_) (fun hp14 => ?_)
 have hil : i < l.length := by omega
 obtain ⟨x, hx⟩ := get_of hil
 obtain ⟨p1, hp1, hR⟩ := h2.get hx
 obtain ⟨p2, hp2, hR2⟩ := h2b.get hx
 obtain ⟨a1, ha1⟩ := hr.some_ (by omega)
 obtain ⟨a2, ha2⟩ := hrb.some_ (by omega)
 subst ha1 ha2
 unfold MkR at hR hR2
 subst hR hR2
 refine Xr e26<|J3 rfl<|J6<|J1<|J7<|J1<|run_still mixed (by kernel_rfl) ?_
 rintro w2 hw2
 have H2 := Hp.drew H1; rw [← hw2] at H2
 refine SV (ex_move rfl)<|SV (ex_move rfl)<|SV (EI Tryz.underlying25 ty63 rfl rfl (len := l.length) (i := i) (by omega) (by omega) rfl)<|SV (EN ty63 rfl (vs := [.int .i64 x.client, .int .i64 x.seq, .bool false, .int .i64 0, .int .i64 0, .int .i64 0, .int .i64 0]) rfl ((hr.to0 H2).elem hp hp1))<|cStl e26<|SV (ex_move rfl)<|SV (ex_move rfl)<|SV (EI Tryz.underlying25 ty63 rfl rfl (len := l.length) (i := i) (by omega) (by omega) rfl)<|SV (EN ty63 rfl (vs := [.int .i64 x.client, .int .i64 x.seq, .bool false, .int .i64 0, .int .i64 0, .int .i64 0, .int .i64 0]) rfl ((hrb.to0 H2).elem hq hp2))<|cStl e26<|SV (ex_neq_mk rfl rfl)<|still_nil<|cR e26<|J4 rfl<|J6<|run_nil (blk_normal ?_)
 refine J2<|Xm rfl<|OV (ex_add rfl rfl (IntWalk.i64_in _ (by omega)))<|Xa rfl<|Xr e26<|run_nil (rnd_normal ?_)
 exact ⟨l.length - (i + 1), by omega, i + 1, _, rfl, (fs (fs (fn (fn (fn (fs (fn (fn (fn (fn (fn (fn (fn (fn (fn (fn (fn (fn (fn (fn (fn (fn (fn (fn (fn (fn f0)))))))))))))))))))))))))), by omega, by omega, H2.noRows⟩
 refine Xr e26<|J4 rfl<|J8<|rnd_exit<|blk_exit<|Rq<|Xa rfl<|Xr e26<|J5<|FN1 rfl rfl<|⟨rfl, H1.noRows⟩
set_option maxRecDepth 100000 in
set_option maxHeartbeats 4000000 in
theorem same_vt (x : Vt) (Ax Ay : Option Addr) (kx ky : Nat) (ok ok2 : Nat → Prop) (w0 : World) (ha : Bs w0 ok Ax x.val) (hb : Bs w0 ok2 Ay x.val) : Does Tryz.prog 31 #[.agg [.int .i64 x.slot, .int .i64 x.b.r, .int .i64 x.b.n, .slice Ax x.val.length kx].toArray, .agg [.int .i64 x.slot, .int .i64 x.b.r, .int .i64 x.b.n, .slice Ay x.val.length ky].toArray] w0 (fun r w' => r = .bool true ∧ Hp w0 w' [] []) := by
 refine does_of Tryz.func31 Tryz.ntmps31 rfl<|cR e24 ?_
 have H := Hp.refl w0
 refine Rq<|ops_box rfl rfl H<|fun w1 g1 H1 hg1=>ops_box rfl rfl H1<|fun w2 g2 H2 hg2=>Xa rfl<|Xr e24<|Rq<|Xf fl39_0 rfl<|OV (EL ty3 rfl (H2.cell (i := 0) rfl rfl))<|Xf fl39_0 rfl<|OV (EL ty3 rfl (H2.cell (i := 1) rfl rfl))<|cOp e24<|OT1 (ex_eql rfl rfl) (rfl)<|Xm rfl<|cOp e24<|OY rfl<|Xf fl39_1 rfl<|OY rfl<|OV (EN ty36 rfl (vs := [.int .i64 x.b.r, .int .i64 x.b.n]) rfl (H2.cellsR (i := 0) rfl rfl))<|cOp e24<|OY rfl<|Xf fl39_1 rfl<|OY rfl<|OV (EN ty36 rfl (vs := [.int .i64 x.b.r, .int .i64 x.b.n]) rfl (H2.cellsR (i := 1) rfl rfl))<|cOp e24<|OY rfl<|OT1 (ex_eql_bal rfl rfl) (⟨rfl, rfl⟩)<|Xt rfl rfl<|Xm rfl<|cOp e24<|OY rfl<|Xf fl39_2 rfl<|OY rfl<|OV (EL ty37 rfl (H2.cell (i := 0) rfl rfl))<|cOp e24<|OY rfl ?_
 refine Xf fl39_2 rfl<|OY rfl<|OV (EL ty37 rfl (H2.cell (i := 1) rfl rfl))<|cOp e24<|OY rfl ?_
 have hby := bytes_any Ax Ay x.val x.val kx ky _ (ha.1.to0 H2) (hb.1.to0 H2) (by have := ha.2.2; omega) (by have := hb.2.2; omega)
 rw [decide_eq_true rfl] at hby
 refine OC (EC gf49 rfl) hby<|fun w3 Hd=>have H3:=H2.callN Hd;Xt rfl rfl<|Xa rfl<|Xr e24<|J5<|FN1 rfl rfl<|⟨rfl, H3.noRows⟩
set_option maxRecDepth 100000 in
set_option maxHeartbeats 4000000 in
theorem same_en (x : En) (Ax Ay : Option Addr) (kx ky : Nat) (ok ok2 : Nat → Prop) (w0 : World) (ha : Bs w0 ok Ax x.val) (hb : Bs w0 ok2 Ay x.val) : Does Tryz.prog 32 #[.agg [.int .i64 x.slot, .slice Ax x.val.length kx].toArray, .agg [.int .i64 x.slot, .slice Ay x.val.length ky].toArray] w0 (fun r w' => r = .bool true ∧ Hp w0 w' [] []) := by
 refine does_of Tryz.func32 Tryz.ntmps32 rfl<|cR e17 ?_
 have H := Hp.refl w0
 refine Rq<|ops_box rfl rfl H<|fun w1 g1 H1 hg1=>ops_box rfl rfl H1<|fun w2 g2 H2 hg2=>Xa rfl<|Xr e17<|Rq<|Xf fl41_0 rfl<|OV (EL ty3 rfl (H2.cell (i := 0) rfl rfl))<|Xf fl41_0 rfl<|OV (EL ty3 rfl (H2.cell (i := 1) rfl rfl))<|cOp e17<|OT1 (ex_eql rfl rfl) (rfl)<|Xm rfl<|cOp e17<|OY rfl<|Xf fl41_1 rfl<|OY rfl<|OV (EL ty37 rfl (H2.cell (i := 0) rfl rfl))<|cOp e17<|OY rfl<|Xf fl41_1 rfl<|OY rfl<|OV (EL ty37 rfl (H2.cell (i := 1) rfl rfl))<|cOp e17<|OY rfl ?_
 have hby := bytes_any Ax Ay x.val x.val kx ky _ (ha.1.to0 H2) (hb.1.to0 H2) (by have := ha.2.2; omega) (by have := hb.2.2; omega)
 rw [decide_eq_true rfl] at hby
 refine OC (EC gf49 rfl) hby<|fun w3 Hd=>have H3:=H2.callN Hd;Xt rfl rfl<|Xa rfl<|Xr e17<|J5<|FN1 rfl rfl<|⟨rfl, H3.noRows⟩
set_option maxRecDepth 100000 in
set_option maxHeartbeats 4000000 in
theorem same_vts0 (A B : Option Addr) (k k2 : Nat) (l : List Vt) (ok ok2 : Nat → Prop) (w0 : World) (hl : Sl (VtR w0 ok) 4 w0 ok A l) (hl2 : Sl (VtR w0 ok2) 4 w0 ok2 B l) (hn : l.length ≤ 1000000000000000000) : Does Tryz.prog 71 #[.slice A l.length k, .slice B l.length k2, .func (.func 31) #[] #[]] w0 (fun r w' => r = .bool true ∧ Hp w0 w' [] []) := by
 refine does_of Tryz.func71 Tryz.ntmps71 rfl<|cR e30 ?_
 have H := Hp.refl w0
 obtain ⟨ps, hp, hr, _, h2⟩ := hl
 obtain ⟨qs, hq, hrb, _, h2b⟩ := hl2
 refine Rq<|Xa rfl<|Xr e30<|J1<|Rq<|Xm rfl<|OV (ES Tryz.underlying54 rfl)<|Xm rfl<|OV (ES Tryz.underlying54 rfl)<|cOp e30<|OT0 (ex_neq rfl rfl) (fun h => h rfl)<|Xr e30<|J4 rfl<|J6<|J1<|Rq<|Xa rfl<|Xr e30<|J7<|run_loop (fun nQ lQ w => ∃ (i : Nat) (y : Int), l.length - i = nQ ∧ Fits [some (.slice A l.length k), some (.slice B l.length k2), some (.func (.func 31) #[] #[]), none, none, none, none, some (.int .i64 y), none, none, none, none, none, none, none, none, none, none, none, none, none, none, none, none, none, none, none, none, none, none] lQ ∧ y = (i : Int) ∧ i ≤ l.length ∧ Hp w0 w [] []) (l.length) ?_ ?_
 exact ⟨0, _, rfl, (fs (fs (fs (fn (fn (fn (fn (fs (fn (fn (fn (fn (fn (fn (fn (fn (fn (fn (fn (fn (fn (fn (fn (fn (fn (fn (fn (fn (fn (fn f0)))))))))))))))))))))))))))))), rfl, Nat.zero_le _, H⟩
 rintro nQ lQ w1 ⟨i, y, rfl, hfit, rfl, hi, H1⟩
 obtain ⟨j, rfl⟩ := hfit.open
 refine cR e30 ?_
 clear hfit
 refine J1<|Rq<|Xm rfl<|Xm rfl<|OV (ES Tryz.underlying54 rfl)<|OT (ex_lss rfl rfl) (fun hp16 => ?_) (fun hp16 => ?_)
 have hil : i < l.length := by omega
 obtain ⟨x, hx⟩ := get_of hil
 obtain ⟨p1, hp1, hR⟩ := h2.get hx
 obtain ⟨p2, hp2, hR2⟩ := h2b.get hx
 obtain ⟨a1, ha1⟩ := hr.some_ (by omega)
 obtain ⟨a2, ha2⟩ := hrb.some_ (by omega)
 subst ha1 ha2
 obtain ⟨Ax, kx, rfl, hbx⟩ := hR
 obtain ⟨Ay, ky, rfl, hby⟩ := hR2
 refine Xr e30<|J3 rfl<|J6<|J1<|J7<|J1<|run_mixZ 10 [(true, 0), (true, 1), (true, 2), (true, 3), (true, 4), (true, 5), (true, 6), (true, 7), (true, 8), (false, 9), (false, 10)] H1 [] mixed (by decide) (by kernel_rfl) ?_
 rintro w2 hw2
 have H2 := Hp.drew H1; rw [← hw2] at H2
 refine Zm rfl rfl<|Zm rfl rfl<|Zm rfl rfl<|MP rfl<|MV (fun wz hz => EI Tryz.underlying54 ty39 rfl rfl (len := l.length) (i := i) (by omega) (by omega) rfl)<|cZ e30<|MP rfl<|MV (fun wz hz => EN ty39 rfl (vs := [.int .i64 x.slot, .int .i64 x.b.r, .int .i64 x.b.n, .slice Ax x.val.length kx]) rfl ((hr.to0 hz).elem hp hp1))<|Zm rfl rfl<|Zm rfl rfl<|MP rfl<|MV (fun wz hz => EI Tryz.underlying54 ty39 rfl rfl (len := l.length) (i := i) (by omega) (by omega) rfl)<|cZ e30<|MP rfl<|MV (fun wz hz => EN ty39 rfl (vs := [.int .i64 x.slot, .int .i64 x.b.r, .int .i64 x.b.n, .slice Ay x.val.length ky]) rfl ((hrb.to0 hz).elem hq hp2))<|MO rfl<|OC (ex_call_val gf31 rfl rfl) (same_vt x Ax Ay kx ky ok ok2 _ (hbx.to H2 k0) (hby.to H2 k0))<|fun w3 Hd=>have H3:=H2.callN Hd;OE<|⟨fun hne => H3.pick [] (by decide), ?_⟩
 refine cZ e30<|MO rfl<|Xn rfl<|OE<|⟨fun hne => absurd rfl hne, ?_⟩
 refine cZ e30<|ME<|cR e30<|J4 rfl<|J6<|run_nil (blk_normal ?_)
 refine J2<|Xm rfl<|OV (ex_add rfl rfl (IntWalk.i64_in _ (by omega)))<|Xa rfl<|Xr e30<|run_nil (rnd_normal ?_)
 exact ⟨l.length - (i + 1), by omega, i + 1, _, rfl, (fs (fs (fs (fn (fn (fn (fn (fs (fn (fn (fn (fn (fn (fn (fn (fn (fn (fn (fn (fn (fn (fn (fn (fn (fn (fn (fn (fn (fn (fn f0)))))))))))))))))))))))))))))), by omega, by omega, H3.noRows⟩
 refine Xr e30<|J4 rfl<|J8<|rnd_exit<|blk_exit<|Rq<|Xa rfl<|Xr e30<|J5<|FN1 rfl rfl<|⟨rfl, H1.noRows⟩
set_option maxRecDepth 100000 in
set_option maxHeartbeats 4000000 in
theorem same_vts (A B : Option Addr) (k k2 : Nat) (l : List Vt) (ok ok2 : Nat → Prop) (w0 : World) (hl : Sl (VtR w0 ok) 4 w0 ok A l) (hl2 : Sl (VtR w0 ok2) 4 w0 ok2 B l) (hn : l.length ≤ 1000000000000000000) : Does Tryz.prog 48 #[.slice A l.length k, .slice B l.length k2] w0 (fun r w' => r = .bool true ∧ Hp w0 w' [] []) := by
 refine does_of Tryz.func48 Tryz.ntmps48 rfl<|cR e8 ?_
 have H := Hp.refl w0
 refine Rq<|Xa rfl<|Xr e8<|Rq<|Xm rfl<|Xm rfl<|OC (EC gf71 rfl) (same_vts0 A B k k2 l ok ok2 _ (hl.toV H k0) (hl2.toV H k0) hn)<|fun w1 Hd=>have H1:=H.callN Hd;Xa rfl<|Xr e8<|J5<|FN1 rfl rfl<|⟨rfl, H1.noRows⟩
set_option maxRecDepth 100000 in
set_option maxHeartbeats 4000000 in
theorem same_ens0 (A B : Option Addr) (k k2 : Nat) (l : List En) (ok ok2 : Nat → Prop) (w0 : World) (hl : Sl (EnR w0 ok) 2 w0 ok A l) (hl2 : Sl (EnR w0 ok2) 2 w0 ok2 B l) (hn : l.length ≤ 1000000000000000000) : Does Tryz.prog 73 #[.slice A l.length k, .slice B l.length k2, .func (.func 32) #[] #[]] w0 (fun r w' => r = .bool true ∧ Hp w0 w' [] []) := by
 refine does_of Tryz.func73 Tryz.ntmps73 rfl<|cR e30 ?_
 have H := Hp.refl w0
 obtain ⟨ps, hp, hr, _, h2⟩ := hl
 obtain ⟨qs, hq, hrb, _, h2b⟩ := hl2
 refine Rq<|Xa rfl<|Xr e30<|J1<|Rq<|Xm rfl<|OV (ES Tryz.underlying55 rfl)<|Xm rfl<|OV (ES Tryz.underlying55 rfl)<|cOp e30<|OT0 (ex_neq rfl rfl) (fun h => h rfl)<|Xr e30<|J4 rfl<|J6<|J1<|Rq<|Xa rfl<|Xr e30<|J7<|run_loop (fun nQ lQ w => ∃ (i : Nat) (y : Int), l.length - i = nQ ∧ Fits [some (.slice A l.length k), some (.slice B l.length k2), some (.func (.func 32) #[] #[]), none, none, none, none, some (.int .i64 y), none, none, none, none, none, none, none, none, none, none, none, none, none, none, none, none, none, none, none, none, none, none] lQ ∧ y = (i : Int) ∧ i ≤ l.length ∧ Hp w0 w [] []) (l.length) ?_ ?_
 exact ⟨0, _, rfl, (fs (fs (fs (fn (fn (fn (fn (fs (fn (fn (fn (fn (fn (fn (fn (fn (fn (fn (fn (fn (fn (fn (fn (fn (fn (fn (fn (fn (fn (fn f0)))))))))))))))))))))))))))))), rfl, Nat.zero_le _, H⟩
 rintro nQ lQ w1 ⟨i, y, rfl, hfit, rfl, hi, H1⟩
 obtain ⟨j, rfl⟩ := hfit.open
 refine cR e30 ?_
 clear hfit
 refine J1<|Rq<|Xm rfl<|Xm rfl<|OV (ES Tryz.underlying55 rfl)<|OT (ex_lss rfl rfl) (fun hp16 => ?_) (fun hp16 => ?_)
 have hil : i < l.length := by omega
 obtain ⟨x, hx⟩ := get_of hil
 obtain ⟨p1, hp1, hR⟩ := h2.get hx
 obtain ⟨p2, hp2, hR2⟩ := h2b.get hx
 obtain ⟨a1, ha1⟩ := hr.some_ (by omega)
 obtain ⟨a2, ha2⟩ := hrb.some_ (by omega)
 subst ha1 ha2
 obtain ⟨Ax, kx, rfl, hbx⟩ := hR
 obtain ⟨Ay, ky, rfl, hby⟩ := hR2
 refine Xr e30<|J3 rfl<|J6<|J1<|J7<|J1<|run_mixZ 10 [(true, 0), (true, 1), (true, 2), (true, 3), (true, 4), (true, 5), (true, 6), (true, 7), (true, 8), (false, 9), (false, 10)] H1 [] mixed (by decide) (by kernel_rfl) ?_
 rintro w2 hw2
 have H2 := Hp.drew H1; rw [← hw2] at H2
 refine Zm rfl rfl<|Zm rfl rfl<|Zm rfl rfl<|MP rfl<|MV (fun wz hz => EI Tryz.underlying55 ty41 rfl rfl (len := l.length) (i := i) (by omega) (by omega) rfl)<|cZ e30<|MP rfl<|MV (fun wz hz => EN ty41 rfl (vs := [.int .i64 x.slot, .slice Ax x.val.length kx]) rfl ((hr.to0 hz).elem hp hp1))<|Zm rfl rfl<|Zm rfl rfl<|MP rfl<|MV (fun wz hz => EI Tryz.underlying55 ty41 rfl rfl (len := l.length) (i := i) (by omega) (by omega) rfl)<|cZ e30<|MP rfl<|MV (fun wz hz => EN ty41 rfl (vs := [.int .i64 x.slot, .slice Ay x.val.length ky]) rfl ((hrb.to0 hz).elem hq hp2))<|MO rfl<|OC (ex_call_val gf32 rfl rfl) (same_en x Ax Ay kx ky ok ok2 _ (hbx.to H2 k0) (hby.to H2 k0))<|fun w3 Hd=>have H3:=H2.callN Hd;OE<|⟨fun hne => H3.pick [] (by decide), ?_⟩
 refine cZ e30<|MO rfl<|Xn rfl<|OE<|⟨fun hne => absurd rfl hne, ?_⟩
 refine cZ e30<|ME<|cR e30<|J4 rfl<|J6<|run_nil (blk_normal ?_)
 refine J2<|Xm rfl<|OV (ex_add rfl rfl (IntWalk.i64_in _ (by omega)))<|Xa rfl<|Xr e30<|run_nil (rnd_normal ?_)
 exact ⟨l.length - (i + 1), by omega, i + 1, _, rfl, (fs (fs (fs (fn (fn (fn (fn (fs (fn (fn (fn (fn (fn (fn (fn (fn (fn (fn (fn (fn (fn (fn (fn (fn (fn (fn (fn (fn (fn (fn f0)))))))))))))))))))))))))))))), by omega, by omega, H3.noRows⟩
 refine Xr e30<|J4 rfl<|J8<|rnd_exit<|blk_exit<|Rq<|Xa rfl<|Xr e30<|J5<|FN1 rfl rfl<|⟨rfl, H1.noRows⟩
set_option maxRecDepth 100000 in
set_option maxHeartbeats 4000000 in
theorem same_ens (A B : Option Addr) (k k2 : Nat) (l : List En) (ok ok2 : Nat → Prop) (w0 : World) (hl : Sl (EnR w0 ok) 2 w0 ok A l) (hl2 : Sl (EnR w0 ok2) 2 w0 ok2 B l) (hn : l.length ≤ 1000000000000000000) : Does Tryz.prog 50 #[.slice A l.length k, .slice B l.length k2] w0 (fun r w' => r = .bool true ∧ Hp w0 w' [] []) := by
 refine does_of Tryz.func50 Tryz.ntmps50 rfl<|cR e8 ?_
 have H := Hp.refl w0
 refine Rq<|Xa rfl<|Xr e8<|Rq<|Xm rfl<|Xm rfl<|OC (EC gf73 rfl) (same_ens0 A B k k2 l ok ok2 _ (hl.toE H k0) (hl2.toE H k0) hn)<|fun w1 Hd=>have H1:=H.callN Hd;Xa rfl<|Xr e8<|J5<|FN1 rfl rfl<|⟨rfl, H1.noRows⟩
set_option maxRecDepth 100000 in
set_option maxHeartbeats 4000000 in
theorem same_sv (s : Sv) (A1 : Option Addr) (k1 : Nat) (A2 : Option Addr) (k2 : Nat) (A3 : Option Addr) (k3 : Nat) (C1 : Option Addr) (q1 : Nat) (C2 : Option Addr) (q2 : Nat) (C3 : Option Addr) (q3 : Nat) (ok ok2 : Nat → Prop) (w0 : World) (h1 : Sl (VtR w0 ok) 4 w0 ok A1 s.votes) (h2 : Bs w0 ok A2 s.image) (h3 : Sl (EnR w0 ok) 2 w0 ok A3 s.entries) (u1 : Sl (VtR w0 ok2) 4 w0 ok2 C1 s.votes) (u2 : Bs w0 ok2 C2 s.image) (u3 : Sl (EnR w0 ok2) 2 w0 ok2 C3 s.entries) (hv : s.votes.length ≤ 1000000000000000000) (he : s.entries.length ≤ 1000000000000000000) : Does Tryz.prog 28 #[.agg [.int .i64 s.p.r, .int .i64 s.p.n, .slice A1 s.votes.length k1, .int .i64 s.index, .slice A2 s.image.length k2, .slice A3 s.entries.length k3].toArray, .agg [.int .i64 s.p.r, .int .i64 s.p.n, .slice C1 s.votes.length q1, .int .i64 s.index, .slice C2 s.image.length q2, .slice C3 s.entries.length q3].toArray] w0 (fun r w' => r = .bool true ∧ Hp w0 w' [] []) := by
 refine does_of Tryz.func28 Tryz.ntmps28 rfl<|cR e38 ?_
 have H := Hp.refl w0
 refine Rq<|ops_box rfl rfl H<|fun w1 g1 H1 hg1=>ops_box rfl rfl H1<|fun w2 g2 H2 hg2=>Xa rfl<|Xr e38<|Rq<|Xf fl57_0 rfl<|OV (EN ty36 rfl (vs := [.int .i64 s.p.r, .int .i64 s.p.n]) rfl (H2.cellsR (i := 0) rfl rfl))<|Xf fl57_0 rfl<|OV (EN ty36 rfl (vs := [.int .i64 s.p.r, .int .i64 s.p.n]) rfl (H2.cellsR (i := 1) rfl rfl))<|cOp e38<|OT1 (ex_eql_bal rfl rfl) (⟨rfl, rfl⟩)<|Xm rfl<|cOp e38<|OY rfl<|Xf fl57_1 rfl<|OY rfl<|OV (EL ty54 rfl (H2.cell (i := 0) rfl rfl))<|cOp e38<|OY rfl<|Xf fl57_1 rfl<|OY rfl<|OV (EL ty54 rfl (H2.cell (i := 1) rfl rfl))<|cOp e38<|OY rfl<|OC (EC gf48 rfl) (same_vts A1 C1 k1 q1 s.votes ok ok2 _ (h1.toV H2 k0) (u1.toV H2 k0) hv)<|fun w3 Hd=>have H3:=H2.callN Hd;Xt rfl rfl<|Xm rfl<|cOp e38<|OY rfl<|Xf fl57_2 rfl<|OY rfl<|OV (EL ty3 rfl (H3.cell (i := 0) rfl rfl)) ?_
 refine cOp e38<|OY rfl<|Xf fl57_2 rfl<|OY rfl<|OV (EL ty3 rfl (H3.cell (i := 1) rfl rfl))<|cOp e38<|OY rfl<|OT1 (ex_eql rfl rfl) (rfl)<|Xt rfl rfl<|Xm rfl<|cOp e38<|OY rfl<|Xf fl57_3 rfl<|OY rfl<|OV (EL ty37 rfl (H3.cell (i := 0) rfl rfl))<|cOp e38<|OY rfl<|Xf fl57_3 rfl<|OY rfl<|OV (EL ty37 rfl (H3.cell (i := 1) rfl rfl))<|cOp e38<|OY rfl ?_
 have hby := bytes_any A2 C2 s.image s.image k2 q2 _ (h2.1.to0 H3) (u2.1.to0 H3) (by have := h2.2.2; omega) (by have := u2.2.2; omega)
 rw [decide_eq_true rfl] at hby
 refine OC (EC gf49 rfl) hby<|fun w4 Hd=>have H4:=H3.callN Hd;Xt rfl rfl<|Xm rfl<|cOp e38<|OY rfl<|Xf fl57_4 rfl<|OY rfl<|OV (EL ty55 rfl (H4.cell (i := 0) rfl rfl))<|cOp e38<|OY rfl<|Xf fl57_4 rfl<|OY rfl<|OV (EL ty55 rfl (H4.cell (i := 1) rfl rfl))<|cOp e38<|OY rfl<|OC (EC gf50 rfl) (same_ens A3 C3 k3 q3 s.entries ok ok2 _ (h3.toE H4 k0) (u3.toE H4 k0) he)<|fun w5 Hd=>have H5:=H4.callN Hd;Xt rfl rfl<|Xa rfl<|Xr e38<|J5<|FN1 rfl rfl<|⟨rfl, H5.noRows⟩
set_option maxRecDepth 100000 in
set_option maxHeartbeats 4000000 in
theorem same_svs (A B : Option Addr) (k kb : Nat) (l : List Sv) (ok ok2 : Nat → Prop) (w0 : World) (hl : Sl (SvR w0 ok) 6 w0 ok A l) (hl2 : Sl (SvR w0 ok2) 6 w0 ok2 B l) (hn : l.length ≤ 1000000000000000000) (hfew : ∀ x ∈ l, x.votes.length ≤ 1000000000000000000 ∧ x.entries.length ≤ 1000000000000000000) : Does Tryz.prog 29 #[.slice A l.length k, .slice B l.length kb, .func (.func 28) #[] #[]] w0 (fun r w' => r = .bool true ∧ Hp w0 w' [] []) := by
 refine does_of Tryz.func29 Tryz.ntmps29 rfl<|cR e30 ?_
 have H := Hp.refl w0
 obtain ⟨ps, hp, hr, _, h2⟩ := hl
 obtain ⟨qs, hq, hrb, _, h2b⟩ := hl2
 refine Rq<|Xa rfl<|Xr e30<|J1<|Rq<|Xm rfl<|OV (ES Tryz.underlying23 rfl)<|Xm rfl<|OV (ES Tryz.underlying23 rfl)<|cOp e30<|OT0 (ex_neq rfl rfl) (fun h => h rfl)<|Xr e30<|J4 rfl<|J6<|J1<|Rq<|Xa rfl<|Xr e30<|J7<|run_loop (fun nQ lQ w => ∃ (i : Nat) (y : Int), l.length - i = nQ ∧ Fits [some (.slice A l.length k), some (.slice B l.length kb), some (.func (.func 28) #[] #[]), none, none, none, none, some (.int .i64 y), none, none, none, none, none, none, none, none, none, none, none, none, none, none, none, none, none, none, none, none, none, none] lQ ∧ y = (i : Int) ∧ i ≤ l.length ∧ Hp w0 w [] []) (l.length) ?_ ?_
 exact ⟨0, _, rfl, (fs (fs (fs (fn (fn (fn (fn (fs (fn (fn (fn (fn (fn (fn (fn (fn (fn (fn (fn (fn (fn (fn (fn (fn (fn (fn (fn (fn (fn (fn f0)))))))))))))))))))))))))))))), rfl, Nat.zero_le _, H⟩
 rintro nQ lQ w1 ⟨i, y, rfl, hfit, rfl, hi, H1⟩
 obtain ⟨j, rfl⟩ := hfit.open
 refine cR e30 ?_
 clear hfit
 refine J1<|Rq<|Xm rfl<|Xm rfl<|OV (ES Tryz.underlying23 rfl)<|OT (ex_lss rfl rfl) (fun hp16 => ?_) (fun hp16 => ?_)
 have hil : i < l.length := by omega
 obtain ⟨x, hx⟩ := get_of hil
 obtain ⟨p1, hp1, hR⟩ := h2.get hx
 obtain ⟨p2, hp2, hR2⟩ := h2b.get hx
 obtain ⟨a1, ha1⟩ := hr.some_ (by omega)
 obtain ⟨a2, ha2⟩ := hrb.some_ (by omega)
 subst ha1 ha2
 obtain ⟨A1, k1, A2, k2, A3, k3, rfl, h1, h3, h4⟩ := hR
 obtain ⟨C1, q1, C2, q2, C3, q3, rfl, u1, u3, u4⟩ := hR2
 have hfx := hfew x (mem_of hx)
 refine Xr e30<|J3 rfl<|J6<|J1<|J7<|J1<|run_mixZ 10 [(true, 0), (true, 1), (true, 2), (true, 3), (true, 4), (true, 5), (true, 6), (true, 7), (true, 8), (false, 9), (false, 10)] H1 [] mixed (by decide) (by kernel_rfl) ?_
 rintro w2 hw2
 have H2 := Hp.drew H1; rw [← hw2] at H2
 refine Zm rfl rfl<|Zm rfl rfl<|Zm rfl rfl<|MP rfl<|MV (fun wz hz => EI Tryz.underlying23 ty57 rfl rfl (len := l.length) (i := i) (by omega) (by omega) rfl)<|cZ e30<|MP rfl<|MV (fun wz hz => EN ty57 rfl (vs := [.int .i64 x.p.r, .int .i64 x.p.n, .slice A1 x.votes.length k1, .int .i64 x.index, .slice A2 x.image.length k2, .slice A3 x.entries.length k3]) rfl ((hr.to0 hz).elem hp hp1))<|Zm rfl rfl<|Zm rfl rfl<|MP rfl<|MV (fun wz hz => EI Tryz.underlying23 ty57 rfl rfl (len := l.length) (i := i) (by omega) (by omega) rfl)<|cZ e30<|MP rfl<|MV (fun wz hz => EN ty57 rfl (vs := [.int .i64 x.p.r, .int .i64 x.p.n, .slice C1 x.votes.length q1, .int .i64 x.index, .slice C2 x.image.length q2, .slice C3 x.entries.length q3]) rfl ((hrb.to0 hz).elem hq hp2))<|MO rfl<|OC (ex_call_val gf28 rfl rfl) (same_sv x A1 k1 A2 k2 A3 k3 C1 q1 C2 q2 C3 q3 ok ok2 _ (h1.toV H2 k0) (h3.to H2 k0) (h4.toE H2 k0) (u1.toV H2 k0) (u3.to H2 k0) (u4.toE H2 k0) hfx.1 hfx.2)<|fun w3 Hd=>have H3:=H2.callN Hd;OE<|⟨fun hne => H3.pick [] (by decide), ?_⟩
 refine cZ e30<|MO rfl<|Xn rfl<|OE<|⟨fun hne => absurd rfl hne, ?_⟩
 refine cZ e30<|ME<|cR e30<|J4 rfl<|J6<|run_nil (blk_normal ?_)
 refine J2<|Xm rfl<|OV (ex_add rfl rfl (IntWalk.i64_in _ (by omega)))<|Xa rfl<|Xr e30<|run_nil (rnd_normal ?_)
 exact ⟨l.length - (i + 1), by omega, i + 1, _, rfl, (fs (fs (fs (fn (fn (fn (fn (fs (fn (fn (fn (fn (fn (fn (fn (fn (fn (fn (fn (fn (fn (fn (fn (fn (fn (fn (fn (fn (fn (fn f0)))))))))))))))))))))))))))))), by omega, by omega, H3.noRows⟩
 refine Xr e30<|J4 rfl<|J8<|rnd_exit<|blk_exit<|Rq<|Xa rfl<|Xr e30<|J5<|FN1 rfl rfl<|⟨rfl, H1.noRows⟩
set_option maxRecDepth 100000 in
set_option maxHeartbeats 4000000 in
theorem same_bo (b : Bo) (A1 : Option Addr) (k1 : Nat) (A2 : Option Addr) (k2 : Nat) (A3 : Option Addr) (k3 : Nat) (C1 : Option Addr) (q1 : Nat) (C2 : Option Addr) (q2 : Nat) (C3 : Option Addr) (q3 : Nat) (ok ok2 : Nat → Prop) (w0 : World) (h1 : Sl (SvR w0 ok) 6 w0 ok A1 b.groups) (h2 : Sl RtR 4 w0 ok A2 b.rights) (h3 : Sl MkR 7 w0 ok A3 b.last) (u1 : Sl (SvR w0 ok2) 6 w0 ok2 C1 b.groups) (u2 : Sl RtR 4 w0 ok2 C2 b.rights) (u3 : Sl MkR 7 w0 ok2 C3 b.last) (n1 : b.groups.length ≤ 1000000000000000000) (n2 : b.rights.length ≤ 1000000000000000000) (n3 : b.last.length ≤ 1000000000000000000) (hfew : ∀ x ∈ b.groups, x.votes.length ≤ 1000000000000000000 ∧ x.entries.length ≤ 1000000000000000000) : Does Tryz.prog 13 #[.agg [.slice A1 b.groups.length k1, .slice A2 b.rights.length k2, .slice A3 b.last.length k3].toArray, .agg [.slice C1 b.groups.length q1, .slice C2 b.rights.length q2, .slice C3 b.last.length q3].toArray] w0 (fun r w' => r = .bool true ∧ Hp w0 w' [] []) := by
 refine does_of Tryz.func13 Tryz.ntmps13 rfl<|cR e24 ?_
 have H := Hp.refl w0
 refine Rq<|ops_box rfl rfl H<|fun w1 g1 H1 hg1=>ops_box rfl rfl H1<|fun w2 g2 H2 hg2=>Xa rfl<|Xr e24<|Rq<|Xf fl27_0 rfl<|OV (EL ty23 rfl (H2.cell (i := 0) rfl rfl))<|Xf fl27_0 rfl<|OV (EL ty23 rfl (H2.cell (i := 1) rfl rfl))<|cOp e24<|OC (EC gf29 rfl) (same_svs A1 C1 k1 q1 b.groups ok ok2 _ (h1.toS H2 k0) (u1.toS H2 k0) n1 hfew)<|fun w3 Hd=>have H3:=H2.callN Hd;Xm rfl<|cOp e24<|OY rfl<|Xf fl27_1 rfl<|OY rfl<|OV (EL ty24 rfl (H3.cell (i := 0) rfl rfl))<|cOp e24<|OY rfl<|Xf fl27_1 rfl<|OY rfl<|OV (EL ty24 rfl (H3.cell (i := 1) rfl rfl))<|cOp e24<|OY rfl<|OC (EC gf27 rfl) (plainR A2 C2 k2 q2 b.rights ok ok2 _ (h2.toR H3 k0) (u2.toR H3 k0) n2)<|fun w4 Hd=>have H4:=H3.callN Hd;Xt rfl rfl<|Xm rfl<|cOp e24<|OY rfl<|Xf fl27_2 rfl ?_
 refine OY rfl<|OV (EL ty25 rfl (H4.cell (i := 0) rfl rfl))<|cOp e24<|OY rfl<|Xf fl27_2 rfl<|OY rfl<|OV (EL ty25 rfl (H4.cell (i := 1) rfl rfl))<|cOp e24<|OY rfl<|OC (EC gf30 rfl) (plainM A3 C3 k3 q3 b.last ok ok2 _ (h3.toM H4 k0) (u3.toM H4 k0) n3)<|fun w5 Hd=>have H5:=H4.callN Hd;Xt rfl rfl<|Xa rfl<|Xr e24<|J5<|FN1 rfl rfl<|⟨rfl, H5.noRows⟩
set_option maxRecDepth 100000 in
set_option maxHeartbeats 4000000 in
theorem alike_r (l : List Sv) (rs : List Rt) (A1 : Option Addr) (k1 : Nat) (A2 : Option Addr) (k2 : Nat) (A3 : Option Addr) (m3 k3 : Nat) (C1 : Option Addr) (q1 : Nat) (C2 : Option Addr) (q2 : Nat) (C3 : Option Addr) (m4 q3 : Nat) (ok ok2 : Nat → Prop) (w0 : World) (h1 : Sl (SvR w0 ok) 6 w0 ok A1 l) (h2 : Sl RtR 4 w0 ok A2 rs) (u1 : Sl (SvR w0 ok2) 6 w0 ok2 C1 l) (u2 : Sl RtR 4 w0 ok2 C2 rs) (n1 : l.length ≤ 1000000000000000000) (n2 : rs.length ≤ 1000000000000000000) (hfew : ∀ x ∈ l, x.votes.length ≤ 1000000000000000000 ∧ x.entries.length ≤ 1000000000000000000) : Does Tryz.prog 10 #[.agg [.slice A1 l.length k1, .slice A2 rs.length k2, .slice A3 m3 k3].toArray, .agg [.slice C1 l.length q1, .slice C2 rs.length q2, .slice C3 m4 q3].toArray] w0 (fun r w' => r = .bool true ∧ Hp w0 w' [] []) := by
 refine does_of Tryz.func10 Tryz.ntmps10 rfl<|cR e40 ?_
 have H := Hp.refl w0
 obtain ⟨ps, hp, hr, _, hx2⟩ := id h1
 obtain ⟨qs, hq, hrb, _, hx2b⟩ := id u1
 refine Rq<|ops_box rfl rfl H<|fun w1 ga H1 _=>ops_box rfl rfl H1<|fun w2 gb H2 _=>Xa rfl<|Xr e40<|J1<|Rq<|Xf fl27_0 rfl<|OV (EL ty23 rfl (H2.cell (i := 0) rfl rfl))<|OV (ES Tryz.underlying23 rfl)<|Xf fl27_0 rfl<|cOp e40<|OV (EL ty23 rfl (H2.cell (i := 1) rfl rfl))<|OV (ES Tryz.underlying23 rfl)<|OT0 (ex_neq rfl rfl) (fun h => h rfl)<|Xm rfl<|cOp e40<|OY rfl<|Xf fl27_1 rfl<|OY rfl<|OV (EL ty24 rfl (H2.cell (i := 0) rfl rfl))<|cOp e40<|OY rfl<|Xf fl27_1 rfl<|OY rfl<|OV (EL ty24 rfl (H2.cell (i := 1) rfl rfl))<|cOp e40<|OY rfl<|OC (EC gf27 rfl) (plainR A2 C2 k2 q2 rs ok ok2 _ (h2.toR H2 k0) (u2.toR H2 k0) n2)<|fun w3 Hd=>have H3:=H2.callN Hd;OY rfl<|Xn rfl<|Xu rfl rfl<|OE ?_
 refine cR e40<|J4 rfl<|J6<|J1<|Rq<|Xa rfl<|Xr e40<|J7<|run_loop (fun nQ lQ w => ∃ (i : Nat) (y : Int), l.length - i = nQ ∧ Fits [none, none, some (.pointer (some ⟨ga, 0, none⟩)), some (.pointer (some ⟨gb, 0, none⟩)), none, some (.int .i64 y), none, none, none, none, none, none, none, none, none, none, none, none, none, none, none, none, none, none, none, none, none, none, none, none, none, none, none, none, none, none, none, none, none, none] lQ ∧ y = (i : Int) ∧ i ≤ l.length ∧ Hp w0 w [] [((some ga, 27, [.slice A1 l.length k1, .slice A2 rs.length k2, .slice A3 m3 k3]) : Ent), (some gb, 27, [.slice C1 l.length q1, .slice C2 rs.length q2, .slice C3 m4 q3])]) (l.length) ?_ ?_
 exact ⟨0, _, rfl, (fn (fn (fs (fs (fn (fs (fn (fn (fn (fn (fn (fn (fn (fn (fn (fn (fn (fn (fn (fn (fn (fn (fn (fn (fn (fn (fn (fn (fn (fn (fn (fn (fn (fn (fn (fn (fn (fn (fn (fn f0)))))))))))))))))))))))))))))))))))))))), rfl, Nat.zero_le _, H3⟩
 rintro nQ lQ w4 ⟨i, y, rfl, hfit, rfl, hi, H4⟩
 obtain ⟨j, rfl⟩ := hfit.open
 refine cR e40 ?_
 clear hfit
 refine J1<|Rq<|Xm rfl<|Xf fl27_0 rfl<|OV (EL ty23 rfl (H4.cell (i := 0) rfl rfl))<|OV (ES Tryz.underlying23 rfl)<|cOp e40<|OT (ex_lss rfl rfl) (fun hp25 => ?_) (fun hp25 => ?_)
 have hil : i < l.length := by omega
 obtain ⟨x, hx⟩ := get_of hil
 obtain ⟨p1, hp1, hR⟩ := hx2.get hx
 obtain ⟨p2, hp2, hR2⟩ := hx2b.get hx
 obtain ⟨a1, ha1⟩ := hr.some_ (by omega)
 obtain ⟨a2, ha2⟩ := hrb.some_ (by omega)
 subst ha1 ha2
 have hfx := hfew x (mem_of hx)
 obtain ⟨D1, e1, D2, e2, D3, e3, rfl, h3, h4, h5⟩ := hR
 obtain ⟨E1, f1, E2, f2, E3, f3, rfl, u3, u4, u5⟩ := hR2
 refine Xr e40<|J3 rfl<|J6<|J1<|J7<|J1<|run_mixZ 11 [(true, 0), (true, 1), (true, 2), (true, 3), (true, 4), (true, 5), (true, 6), (true, 7), (true, 8), (true, 9), (false, 10), (false, 11)] H4 [0, 1] mixed (by decide) (by kernel_rfl) ?_
 rintro w5 hw5
 have H5 := Hp.drew H4; rw [← hw5] at H5
 refine Zf rfl fl27_0 rfl<|MP rfl<|MV (fun wz hz => EL ty23 rfl (hz.cell (i := 0) rfl rfl))<|Zm rfl rfl<|MP rfl<|MV (fun wz hz => EI Tryz.underlying23 ty57 rfl rfl (len := l.length) (i := i) (by omega) (by omega) rfl)<|cZ e40<|MP rfl<|MV (fun wz hz => EN ty57 rfl (vs := [.int .i64 x.p.r, .int .i64 x.p.n, .slice D1 x.votes.length e1, .int .i64 x.index, .slice D2 x.image.length e2, .slice D3 x.entries.length e3]) rfl ((hr.to0 hz).elem hp hp1))<|Zf rfl fl27_0 rfl<|MP rfl<|MV (fun wz hz => EL ty23 rfl (hz.cell (i := 1) rfl rfl))<|Zm rfl rfl<|cZ e40<|MP rfl<|MV (fun wz hz => EI Tryz.underlying23 ty57 rfl rfl (len := l.length) (i := i) (by omega) (by omega) rfl)<|MP rfl<|MV (fun wz hz => EN ty57 rfl (vs := [.int .i64 x.p.r, .int .i64 x.p.n, .slice E1 x.votes.length f1, .int .i64 x.index, .slice E2 x.image.length f2, .slice E3 x.entries.length f3]) rfl ((hrb.to0 hz).elem hq hp2))<|MO rfl<|OC (EC gf28 rfl) (same_sv x D1 e1 D2 e2 D3 e3 E1 f1 E2 f2 E3 f3 ok ok2 _ (h3.toV H5 k0) (h4.to H5 k0) (h5.toE H5 k0) (u3.toV H5 k0) (u4.to H5 k0) (u5.toE H5 k0) hfx.1 hfx.2)<|fun w6 Hd=>have H6:=H5.callN Hd;OE<|⟨fun hne => H6.pick [0, 1] (by decide), ?_⟩
 refine cZ e40<|MO rfl<|Xn rfl<|OE<|⟨fun hne => absurd rfl hne, ?_⟩
 refine cZ e40<|ME<|cR e40<|J4 rfl<|J6<|run_nil (blk_normal ?_)
 refine J2<|Xm rfl<|OV (ex_add rfl rfl (IntWalk.i64_in _ (by omega)))<|Xa rfl<|Xr e40<|run_nil (rnd_normal ?_)
 exact ⟨l.length - (i + 1), by omega, i + 1, _, rfl, (fn (fn (fs (fs (fn (fs (fn (fn (fn (fn (fn (fn (fn (fn (fn (fn (fn (fn (fn (fn (fn (fn (fn (fn (fn (fn (fn (fn (fn (fn (fn (fn (fn (fn (fn (fn (fn (fn (fn (fn f0)))))))))))))))))))))))))))))))))))))))), by omega, by omega, H6.pick [0, 1] (by decide)⟩
 refine Xr e40<|J4 rfl<|J8<|rnd_exit<|blk_exit<|Rq<|Xa rfl<|Xr e40<|J5<|FN1 rfl rfl<|⟨rfl, H4.noRows⟩
set_option maxRecDepth 100000 in
set_option maxHeartbeats 4000000 in
theorem same_nt (n : Nt) (B1 : Option Addr) (j1 : Nat) (B2 : Option Addr) (j2 : Nat) (E1 : Option Addr) (f1 : Nat) (E2 : Option Addr) (f2 : Nat) (ok ok2 : Nat → Prop) (w0 : World) (h1 : Bs w0 ok B1 n.vote.val) (h2 : Bs w0 ok B2 n.entry.val) (u1 : Bs w0 ok2 E1 n.vote.val) (u2 : Bs w0 ok2 E2 n.entry.val) : Does Tryz.prog 15 #[.agg [.int .i64 n.kind, .int .i64 n.group, .int .i64 n.b.r, .int .i64 n.b.n, .int .i64 n.vote.slot, .int .i64 n.vote.b.r, .int .i64 n.vote.b.n, .slice B1 n.vote.val.length j1, .int .i64 n.entry.slot, .slice B2 n.entry.val.length j2, .int .i64 n.right.g, strV n.right.key, .int .i64 n.right.lease, .int .i64 n.right.net, .int .i64 n.client, .int .i64 n.seq].toArray, .agg [.int .i64 n.kind, .int .i64 n.group, .int .i64 n.b.r, .int .i64 n.b.n, .int .i64 n.vote.slot, .int .i64 n.vote.b.r, .int .i64 n.vote.b.n, .slice E1 n.vote.val.length f1, .int .i64 n.entry.slot, .slice E2 n.entry.val.length f2, .int .i64 n.right.g, strV n.right.key, .int .i64 n.right.lease, .int .i64 n.right.net, .int .i64 n.client, .int .i64 n.seq].toArray] w0 (fun r w' => r = .bool true ∧ Hp w0 w' [] []) := by
 refine does_of Tryz.func15 Tryz.ntmps15 rfl<|cR e59 ?_
 have H := Hp.refl w0
 refine Rq<|ops_box rfl rfl H<|fun w1 g1 H1 hg1=>ops_box rfl rfl H1<|fun w2 g2 H2 hg2=>Xa rfl<|Xr e59<|Rq<|Xf fl45_0 rfl<|OV (EL ty3 rfl (H2.cell (i := 0) rfl rfl))<|Xf fl45_0 rfl<|OV (EL ty3 rfl (H2.cell (i := 1) rfl rfl))<|cOp e59<|OT1 (ex_eql rfl rfl) (rfl)<|Xm rfl<|cOp e59<|OY rfl<|Xf fl45_1 rfl<|OY rfl<|OV (EL ty3 rfl (H2.cell (i := 0) rfl rfl))<|cOp e59<|OY rfl<|Xf fl45_1 rfl<|OY rfl<|OV (EL ty3 rfl (H2.cell (i := 1) rfl rfl))<|cOp e59<|OY rfl<|OT1 (ex_eql rfl rfl) (rfl)<|Xt rfl rfl<|Xm rfl<|cOp e59<|OY rfl<|Xf fl45_2 rfl<|OY rfl<|OV (EN ty36 rfl (vs := [.int .i64 n.b.r, .int .i64 n.b.n]) rfl (H2.cellsR (i := 0) rfl rfl))<|cOp e59<|OY rfl ?_
 refine Xf fl45_2 rfl<|OY rfl<|OV (EN ty36 rfl (vs := [.int .i64 n.b.r, .int .i64 n.b.n]) rfl (H2.cellsR (i := 1) rfl rfl))<|cOp e59<|OY rfl<|OT1 (ex_eql_bal rfl rfl) (⟨rfl, rfl⟩)<|Xt rfl rfl<|Xm rfl<|cOp e59<|OY rfl<|Xf fl45_3 rfl<|OY rfl<|OV (EN ty39 rfl (vs := [.int .i64 n.vote.slot, .int .i64 n.vote.b.r, .int .i64 n.vote.b.n, .slice B1 n.vote.val.length j1]) rfl (H2.cellsR (i := 0) rfl rfl))<|cOp e59<|OY rfl<|Xf fl45_3 rfl<|OY rfl<|OV (EN ty39 rfl (vs := [.int .i64 n.vote.slot, .int .i64 n.vote.b.r, .int .i64 n.vote.b.n, .slice E1 n.vote.val.length f1]) rfl (H2.cellsR (i := 1) rfl rfl))<|cOp e59<|OY rfl<|OC (EC gf31 rfl) (same_vt n.vote B1 E1 j1 f1 ok ok2 _ (h1.to H2 k0) (u1.to H2 k0))<|fun w3 Hd=>have H3:=H2.callN Hd;Xt rfl rfl<|Xm rfl<|cOp e59<|OY rfl<|Xf fl45_4 rfl<|OY rfl<|OV (EN ty41 rfl (vs := [.int .i64 n.entry.slot, .slice B2 n.entry.val.length j2]) rfl (H3.cellsR (i := 0) rfl rfl))<|cOp e59<|OY rfl<|Xf fl45_4 rfl<|OY rfl<|OV (EN ty41 rfl (vs := [.int .i64 n.entry.slot, .slice E2 n.entry.val.length f2]) rfl (H3.cellsR (i := 1) rfl rfl))<|cOp e59<|OY rfl<|OC (EC gf32 rfl) (same_en n.entry B2 E2 j2 f2 ok ok2 _ (h2.to H3 k0) (u2.to H3 k0))<|fun w4 Hd=>have H4:=H3.callN Hd;Xt rfl rfl ?_
 refine Xm rfl<|cOp e59<|OY rfl<|Xf fl45_5 rfl<|OY rfl<|OV (EN ty43 rfl (vs := [.int .i64 n.right.g, strV n.right.key, .int .i64 n.right.lease, .int .i64 n.right.net]) rfl (H4.cellsR (i := 0) rfl rfl))<|cOp e59<|OY rfl<|Xf fl45_5 rfl<|OY rfl<|OV (EN ty43 rfl (vs := [.int .i64 n.right.g, strV n.right.key, .int .i64 n.right.lease, .int .i64 n.right.net]) rfl (H4.cellsR (i := 1) rfl rfl))<|cOp e59<|OY rfl<|OV (ex_eql_rt rfl rfl)<|Xt rfl rfl<|Xm rfl<|cOp e59<|OY rfl<|Xf fl45_6 rfl<|OY rfl<|OV (EL ty3 rfl (H4.cell (i := 0) rfl rfl))<|cOp e59<|OY rfl<|Xf fl45_6 rfl<|OY rfl<|OV (EL ty3 rfl (H4.cell (i := 1) rfl rfl))<|cOp e59<|OY rfl<|OT1 (ex_eql rfl rfl) (rfl)<|Xt rfl rfl<|Xm rfl<|cOp e59<|OY rfl<|Xf fl45_7 rfl<|OY rfl<|OV (EL ty3 rfl (H4.cell (i := 0) rfl rfl))<|cOp e59<|OY rfl<|Xf fl45_7 rfl<|OY rfl ?_
 refine OV (EL ty3 rfl (H4.cell (i := 1) rfl rfl))<|cOp e59<|OY rfl<|OT1 (ex_eql rfl rfl) (rfl)<|Xt rfl rfl<|Xa rfl<|Xr e59<|J5<|FN1 rfl rfl<|⟨rfl, H4.noRows⟩
set_option maxRecDepth 100000 in
set_option maxHeartbeats 4000000 in
theorem same_nts (A B : Option Addr) (k k2 : Nat) (l : List Nt) (ok ok2 : Nat → Prop) (w0 : World) (hl : Sl (NtR w0 ok) 16 w0 ok A l) (hl2 : Sl (NtR w0 ok2) 16 w0 ok2 B l) (hn : l.length ≤ 1000000000000000000) : Does Tryz.prog 14 #[.slice A l.length k, .slice B l.length k2, .func (.func 15) #[] #[]] w0 (fun r w' => r = .bool true ∧ Hp w0 w' [] []) := by
 refine does_of Tryz.func14 Tryz.ntmps14 rfl<|cR e30 ?_
 have H := Hp.refl w0
 obtain ⟨ps, hp, hr, _, h2⟩ := hl
 obtain ⟨qs, hq, hrb, _, h2b⟩ := hl2
 refine Rq<|Xa rfl<|Xr e30<|J1<|Rq<|Xm rfl<|OV (ES Tryz.underlying22 rfl)<|Xm rfl<|OV (ES Tryz.underlying22 rfl)<|cOp e30<|OT0 (ex_neq rfl rfl) (fun h => h rfl)<|Xr e30<|J4 rfl<|J6<|J1<|Rq<|Xa rfl<|Xr e30<|J7<|run_loop (fun nQ lQ w => ∃ (i : Nat) (y : Int), l.length - i = nQ ∧ Fits [some (.slice A l.length k), some (.slice B l.length k2), some (.func (.func 15) #[] #[]), none, none, none, none, some (.int .i64 y), none, none, none, none, none, none, none, none, none, none, none, none, none, none, none, none, none, none, none, none, none, none] lQ ∧ y = (i : Int) ∧ i ≤ l.length ∧ Hp w0 w [] []) (l.length) ?_ ?_
 exact ⟨0, _, rfl, (fs (fs (fs (fn (fn (fn (fn (fs (fn (fn (fn (fn (fn (fn (fn (fn (fn (fn (fn (fn (fn (fn (fn (fn (fn (fn (fn (fn (fn (fn f0)))))))))))))))))))))))))))))), rfl, Nat.zero_le _, H⟩
 rintro nQ lQ w1 ⟨i, y, rfl, hfit, rfl, hi, H1⟩
 obtain ⟨j, rfl⟩ := hfit.open
 refine cR e30 ?_
 clear hfit
 refine J1<|Rq<|Xm rfl<|Xm rfl<|OV (ES Tryz.underlying22 rfl)<|OT (ex_lss rfl rfl) (fun hp16 => ?_) (fun hp16 => ?_)
 have hil : i < l.length := by omega
 obtain ⟨x, hx⟩ := get_of hil
 obtain ⟨p1, hp1, hR⟩ := h2.get hx
 obtain ⟨p2, hp2, hR2⟩ := h2b.get hx
 obtain ⟨a1, ha1⟩ := hr.some_ (by omega)
 obtain ⟨a2, ha2⟩ := hrb.some_ (by omega)
 subst ha1 ha2
 obtain ⟨B1, j1, B2, j2, rfl, h1, h3⟩ := hR
 obtain ⟨E1, f1, E2, f2, rfl, u1, u3⟩ := hR2
 refine Xr e30<|J3 rfl<|J6<|J1<|J7<|J1<|run_mixZ 10 [(true, 0), (true, 1), (true, 2), (true, 3), (true, 4), (true, 5), (true, 6), (true, 7), (true, 8), (false, 9), (false, 10)] H1 [] mixed (by decide) (by kernel_rfl) ?_
 rintro w2 hw2
 have H2 := Hp.drew H1; rw [← hw2] at H2
 refine Zm rfl rfl<|Zm rfl rfl<|Zm rfl rfl<|MP rfl<|MV (fun wz hz => EI Tryz.underlying22 ty45 rfl rfl (len := l.length) (i := i) (by omega) (by omega) rfl)<|cZ e30<|MP rfl<|MV (fun wz hz => EN ty45 rfl (vs := [.int .i64 x.kind, .int .i64 x.group, .int .i64 x.b.r, .int .i64 x.b.n, .int .i64 x.vote.slot, .int .i64 x.vote.b.r, .int .i64 x.vote.b.n, .slice B1 x.vote.val.length j1, .int .i64 x.entry.slot, .slice B2 x.entry.val.length j2, .int .i64 x.right.g, strV x.right.key, .int .i64 x.right.lease, .int .i64 x.right.net, .int .i64 x.client, .int .i64 x.seq]) rfl ((hr.to0 hz).elem hp hp1))<|Zm rfl rfl<|Zm rfl rfl<|MP rfl<|MV (fun wz hz => EI Tryz.underlying22 ty45 rfl rfl (len := l.length) (i := i) (by omega) (by omega) rfl)<|cZ e30<|MP rfl<|MV (fun wz hz => EN ty45 rfl (vs := [.int .i64 x.kind, .int .i64 x.group, .int .i64 x.b.r, .int .i64 x.b.n, .int .i64 x.vote.slot, .int .i64 x.vote.b.r, .int .i64 x.vote.b.n, .slice E1 x.vote.val.length f1, .int .i64 x.entry.slot, .slice E2 x.entry.val.length f2, .int .i64 x.right.g, strV x.right.key, .int .i64 x.right.lease, .int .i64 x.right.net, .int .i64 x.client, .int .i64 x.seq]) rfl ((hrb.to0 hz).elem hq hp2))<|MO rfl<|OC (ex_call_val gf15 rfl rfl) (same_nt x B1 j1 B2 j2 E1 f1 E2 f2 ok ok2 _ (h1.to H2 k0) (h3.to H2 k0) (u1.to H2 k0) (u3.to H2 k0))<|fun w3 Hd=>have H3:=H2.callN Hd;OE<|⟨fun hne => H3.pick [] (by decide), ?_⟩
 refine cZ e30<|MO rfl<|Xn rfl<|OE<|⟨fun hne => absurd rfl hne, ?_⟩
 refine cZ e30<|ME<|cR e30<|J4 rfl<|J6<|run_nil (blk_normal ?_)
 refine J2<|Xm rfl<|OV (ex_add rfl rfl (IntWalk.i64_in _ (by omega)))<|Xa rfl<|Xr e30<|run_nil (rnd_normal ?_)
 exact ⟨l.length - (i + 1), by omega, i + 1, _, rfl, (fs (fs (fs (fn (fn (fn (fn (fs (fn (fn (fn (fn (fn (fn (fn (fn (fn (fn (fn (fn (fn (fn (fn (fn (fn (fn (fn (fn (fn (fn f0)))))))))))))))))))))))))))))), by omega, by omega, H3.noRows⟩
 refine Xr e30<|J4 rfl<|J8<|rnd_exit<|blk_exit<|Rq<|Xa rfl<|Xr e30<|J5<|FN1 rfl rfl<|⟨rfl, H1.noRows⟩
end Go.Proofs.YtbninklfoogmdaaGreat
/- Walks of layer 2, printed by wip/gen/codec.py. -/
namespace Go.Proofs.YtbninklfoogmdaaGreat
open Go Go.RowKit
set_option linter.unusedVariables false
attribute [local irreducible] Still Ops Does Cd
set_option maxRecDepth 100000 in
set_option maxHeartbeats 4000000 in
theorem right16 (A : Option Addr) (k : Nat) (l : List Rt) (ok : Nat → Prop) (w0 : World) (hl : Sl RtR 4 w0 ok A l) (hn : l.length ≤ 1000000000000) (hso : rtsOk l) : Does Tryz.prog 38 #[.slice A l.length k] w0 (fun r w' => r = .bool true ∧ Hp w0 w' [] []) := by
 refine does_of Tryz.func38 Tryz.ntmps38 rfl<|cR e33 ?_
 have H := Hp.refl w0
 obtain ⟨ps, hp, hr, ha, h2⟩ := id hl
 have hlen := h2.len
 obtain ⟨hmays, hrise⟩ := rts_rise hso
 refine Rq<|Xa rfl<|Xr e33<|J1<|Rq<|Xa rfl<|Xr e33<|J7<|run_loop (fun nQ lQ w => ∃ (i : Nat) (y : Int), l.length - i = nQ ∧ Fits [some (.slice A l.length k), none, none, some (.int .i64 y), none, none, none, none, none, none, none, none, none, none, none, none, none, none, none, none, none, none, none, none, none, none, none, none, none, none, none, none, none] lQ ∧ y = (i : Int) ∧ i ≤ l.length ∧ Hp w0 w [] []) (l.length) ?_ ?_
 exact ⟨0, _, rfl, (fs (fn (fn (fs (fn (fn (fn (fn (fn (fn (fn (fn (fn (fn (fn (fn (fn (fn (fn (fn (fn (fn (fn (fn (fn (fn (fn (fn (fn (fn (fn (fn (fn f0))))))))))))))))))))))))))))))))), rfl, Nat.zero_le _, H⟩
 rintro nQ lQ w1 ⟨i, y, rfl, hfit, rfl, hi, H1⟩
 obtain ⟨j, rfl⟩ := hfit.open
 refine cR e33 ?_
 clear hfit
 refine J1<|Rq<|Xm rfl<|Xm rfl<|OV (ES Tryz.underlying24 rfl)<|OT (ex_lss rfl rfl) (fun hp7 => ?_) (fun hp7 => ?_)
 have hil : i < l.length := by omega
 obtain ⟨x, hx⟩ := get_of hil
 obtain ⟨p1, hp1, hR⟩ := h2.get hx
 unfold RtR at hR
 subst hR
 obtain ⟨a1, ha1⟩ := hr.some_ (by omega)
 subst ha1
 have hmay := hmays x (mem_of hx)
 refine Xr e33<|J3 rfl<|J6<|J1<|J7<|J1<|run_mixZ 22 [(true, 0), (true, 1), (true, 2), (true, 3), (false, 4), (true, 5), (true, 6), (true, 7), (true, 8), (true, 9), (true, 10), (true, 11), (true, 12), (true, 13), (true, 14), (true, 15), (true, 16), (true, 17), (true, 18), (false, 19), (true, 20), (true, 21), (false, 22)] H1 [] mixed (by decide) (by kernel_rfl) ?_
 rintro w2 hw2
 have H2 := Hp.drew H1; rw [← hw2] at H2
 refine Zm rfl rfl<|Zm rfl rfl<|MP rfl<|MV (fun wz hz => EI Tryz.underlying24 ty43 rfl rfl (len := l.length) (i := i) (by omega) (by omega) rfl)<|MP rfl<|MV (fun wz hz => EN ty43 rfl (vs := [.int .i64 x.g, strV x.key, .int .i64 x.lease, .int .i64 x.net]) rfl ((hr.to0 hz).elem hp hp1))<|cZ e33<|MO rfl<|ops_call_true (EC gf39 rfl) (may16 _ _) (hmay)<|fun w3 Hd=>have H3:=H2.callN Hd;OE<|⟨fun hne => H3.pick [] (by decide), ?_⟩
 refine cZ e33<|MP rfl<|MV (fun wz hz => ex_not rfl)<|Zm rfl rfl<|MP rfl<|MY rfl<|MV (fun wz hz => ex_move rfl)<|MP rfl<|MY rfl<|mix1_test (fun wz hz => ex_gtr rfl rfl) (fun hp18 => ?_) (fun hp18 => ?_)
 obtain ⟨y, hy⟩ := get_of (l := l) (j := i - 1) (by omega)
 obtain ⟨p2, hp2, hR2⟩ := h2.get hy
 unfold RtR at hR2
 subst hR2
 have hlt := hrise (i - 1) i y x (by omega) hy hx
 refine MP rfl<|MY rfl<|MV (fun wz hz => ex_move rfl)<|cZ e33<|MP rfl<|MY rfl<|MV (fun wz hz => ex_move rfl)<|MP rfl<|MY rfl<|MV (fun wz hz => ex_move rfl)<|MP rfl<|MY rfl<|MV (fun wz hz => ex_sub rfl rfl (IntWalk.i64_in _ (by omega)))<|MP rfl<|MY rfl<|MV (fun wz hz => EI Tryz.underlying24 ty43 rfl rfl (len := l.length) (i := i - 1) (by omega) (by omega) rfl)<|cZ e33<|MP rfl<|MY rfl<|MV (fun wz hz => EN ty43 rfl (vs := [.int .i64 y.g, strV y.key, .int .i64 y.lease, .int .i64 y.net]) rfl ((hr.to0 hz).elem hp hp2))<|MP rfl<|MY rfl<|MV (fun wz hz => ex_move rfl)<|MP rfl<|MY rfl<|MV (fun wz hz => ex_move rfl)<|MP rfl<|MY rfl<|MV (fun wz hz => EI Tryz.underlying24 ty43 rfl rfl (len := l.length) (i := i) (by omega) (by omega) rfl)<|cZ e33<|MP rfl<|MY rfl<|MV (fun wz hz => EN ty43 rfl (vs := [.int .i64 x.g, strV x.key, .int .i64 x.lease, .int .i64 x.net]) rfl ((hr.to0 hz).elem hp hp1))<|MO rfl<|OY rfl<|ops_call_true (EC gf40 rfl) (below16 _ _ _) (hlt)<|fun w4 Hd=>have H4:=H3.callN Hd;OE<|⟨fun hne => H4.pick [] (by decide), ?_⟩
 refine cZ e33<|MP rfl<|MY rfl<|MV (fun wz hz => ex_not rfl)<|MP rfl<|MY rfl<|MV (fun wz hz => ex_pick_t rfl rfl)<|MO rfl<|Xu rfl rfl<|OE<|⟨fun hne => absurd rfl hne, ?_⟩
 refine cZ e33<|ME<|cR e33<|J4 rfl<|J6<|run_nil (blk_normal ?_)
 refine J2<|Xm rfl<|OV (ex_add rfl rfl (IntWalk.i64_in _ (by omega)))<|Xa rfl<|Xr e33<|run_nil (rnd_normal ?_)
 exact ⟨l.length - (i + 1), by omega, i + 1, _, rfl, (fs (fn (fn (fs (fn (fn (fn (fn (fn (fn (fn (fn (fn (fn (fn (fn (fn (fn (fn (fn (fn (fn (fn (fn (fn (fn (fn (fn (fn (fn (fn (fn (fn f0))))))))))))))))))))))))))))))))), by omega, by omega, H4.noRows⟩
 refine MP rfl<|MY rfl<|MV (fun wz hz => ex_move rfl)<|cZ e33<|MP rfl<|MZ rfl<|MP rfl<|MZ rfl<|cZ e33<|MP rfl<|MZ rfl<|MP rfl<|MZ rfl<|cZ e33<|MP rfl<|MZ rfl<|MP rfl<|MZ rfl<|cZ e33<|MP rfl<|MZ rfl<|MP rfl<|MZ rfl<|cZ e33<|MP rfl<|MZ rfl<|MO rfl<|OZ rfl<|OE<|⟨fun hne => H3.pick [] (by decide), ?_⟩
 refine cZ e33<|MP rfl<|MZ rfl<|MP rfl<|MY rfl<|MV (fun wz hz => ex_pick_f rfl rfl)<|MO rfl<|Xu rfl rfl<|OE<|⟨fun hne => absurd rfl hne, ?_⟩
 refine cZ e33<|ME<|cR e33<|J4 rfl<|J6<|run_nil (blk_normal ?_)
 refine J2<|Xm rfl<|OV (ex_add rfl rfl (IntWalk.i64_in _ (by omega)))<|Xa rfl<|Xr e33<|run_nil (rnd_normal ?_)
 exact ⟨l.length - (i + 1), by omega, i + 1, _, rfl, (fs (fn (fn (fs (fn (fn (fn (fn (fn (fn (fn (fn (fn (fn (fn (fn (fn (fn (fn (fn (fn (fn (fn (fn (fn (fn (fn (fn (fn (fn (fn (fn (fn f0))))))))))))))))))))))))))))))))), by omega, by omega, H3.noRows⟩
 refine Xr e33<|J4 rfl<|J8<|rnd_exit<|blk_exit<|Rq<|Xa rfl<|Xr e33<|J5<|FN1 rfl rfl<|⟨rfl, H1.noRows⟩
set_option maxRecDepth 100000 in
set_option maxHeartbeats 16000000 in
theorem put16 (x0 : Rt) (A : Option Addr) (k : Nat) (l : List Rt) (ok : Nat → Prop) (w0 : World) (hl : Sl RtR 4 w0 ok A l) (hn : l.length ≤ 1000000000000) (hso : rtsOk l) : Does Tryz.prog 20 #[.slice A l.length k, .agg [.int .i64 x0.g, strV x0.key, .int .i64 x0.lease, .int .i64 x0.net].toArray] w0 (fun r w' => (mayR x0 → ∃ A' k', r = .tuple #[.slice A' (putRt l x0).length k', .int .i64 0] ∧ Sl RtR 4 w' (fun b => w0.heap.size ≤ b) A' (putRt l x0)) ∧ (¬ mayR x0 → r = .tuple #[.slice none 0 0, .int .i64 1]) ∧ Hp w0 w' [] []) := by
 refine does_of Tryz.func20 Tryz.ntmps20 rfl<|cR e53 ?_
 have H := Hp.refl w0
 obtain ⟨ps, hp, hr, ha, h2⟩ := id hl
 have hlen := h2.len
 obtain ⟨hmays, hrise⟩ := rts_rise hso
 refine Rq<|ops_box rfl rfl H<|fun w1 gx H1 _=>Xa rfl<|Xa rfl<|Xr e53<|J1<|Rq<|Xm rfl<|OC (EC gf38 rfl) (right16 A k l ok _ (hl.toR H1 k0) hn hso)<|fun w2 Hd=>have H2:=H1.callN Hd;Xn rfl<|Xr e53<|J4 rfl<|J6<|J1<|Rq<|OV (EN ty43 rfl (vs := [.int .i64 x0.g, strV x0.key, .int .i64 x0.lease, .int .i64 x0.net]) rfl (H2.cellsR (i := 0) rfl rfl))<|OX (EC gf39 rfl) (may16 _ _) (fun hp13 w3 Hd => ?_) (fun hp13 w3 Hd => ?_)
 have H3 := H2.callN Hd
 refine Xn rfl<|Xr e53<|J4 rfl<|J6<|Rq<|Xa rfl<|Xa rfl<|Xr e53<|J1<|Rq<|Xa rfl<|Xr e53<|J7<|run_loop (fun nQ lQ w => ∃ (i : Nat) (y : Int) (g : Option Nat) (cap : Nat) (us : List Rt) (sp : List Value) (g6 : Option Nat) (cap6 : Nat) (vs : List Rt) (sp6 : List Value), l.length - i = nQ ∧ Fits [some (.slice A l.length k), none, none, some (.pointer (some ⟨gx, 0, none⟩)), none, none, some (.slice (hd g) (us.map rtC).length cap), some (.slice (hd g6) (vs.map rtC).length cap6), some (.int .i64 y), none, none, none, none, none, none, none, none, none, none, none, none, none, none, none, none, none, none, none, none, none, none, none, none, none, none, none, none, none, none, none, none, none, none, none, none, none, none, none, none, none, none, none, none] lQ ∧ y = (i : Int) ∧ i ≤ l.length ∧ us = (l.take i).filter (fun z => ltR z x0) ∧ vs = (l.take i).filter (fun z => ltR x0 z) ∧ Gw 4 g cap (us.map rtC) sp ∧ Gw 4 g6 cap6 (vs.map rtC) sp6 ∧ Hp w0 w [] [((some gx, 43, [.int .i64 x0.g, strV x0.key, .int .i64 x0.lease, .int .i64 x0.net]) : Ent), ((g, 43, (us.map rtC).flatten ++ sp) : Ent), ((g6, 43, (vs.map rtC).flatten ++ sp6) : Ent)]) (l.length) ?_ ?_
 exact ⟨0, _, none, 0, [], [], none, 0, [], [], rfl, (fs (fn (fn (fs (fn (fn (fs (fs (fs (fn (fn (fn (fn (fn (fn (fn (fn (fn (fn (fn (fn (fn (fn (fn (fn (fn (fn (fn (fn (fn (fn (fn (fn (fn (fn (fn (fn (fn (fn (fn (fn (fn (fn (fn (fn (fn (fn (fn (fn (fn (fn (fn (fn f0))))))))))))))))))))))))))))))))))))))))))))))))))))), rfl, Nat.zero_le _, rfl, rfl, Gw.nil 4, Gw.nil 4, (H3.nil 43).nil 43⟩
 rintro nQ lQ w4 ⟨i, y, g, cap, us, sp, g6, cap6, vs, sp6, rfl, hfit, rfl, hi, hus, hvs, hG, hG6, H4⟩
 obtain ⟨j, rfl⟩ := hfit.open
 refine cR e53 ?_
 clear hfit
 refine J1<|Rq<|Xm rfl<|Xm rfl<|OV (ES Tryz.underlying24 rfl)<|OT (ex_lss rfl rfl) (fun hp18 => ?_) (fun hp18 => ?_)
 have hil : i < l.length := by omega
 obtain ⟨x, hx⟩ := get_of hil
 obtain ⟨p1, hp1, hR⟩ := h2.get hx
 unfold RtR at hR
 subst hR
 obtain ⟨a1, ha1⟩ := hr.some_ (by omega)
 subst ha1
 have hmay := hmays x (mem_of hx)
 have hul : us.length ≤ i := by rw [hus]; exact tf_len
 have hvl : vs.length ≤ i := by rw [hvs]; exact tf_len
 refine Xr e53<|J3 rfl<|J6<|J1<|J7<|J1<|J1<|run_mixZ 5 [(true, 0), (true, 1), (true, 2), (true, 3), (true, 4), (false, 5)] H4 [0, 1, 2] mixed (by decide) (by kernel_rfl) ?_
 rintro w5 hw5
 have H5 := Hp.drew H4; rw [← hw5] at H5
 refine Zm rfl rfl<|Zm rfl rfl<|MP rfl<|MV (fun wz hz => EI Tryz.underlying24 ty43 rfl rfl (len := l.length) (i := i) (by omega) (by omega) rfl)<|MP rfl<|MV (fun wz hz => EN ty43 rfl (vs := [.int .i64 x.g, strV x.key, .int .i64 x.lease, .int .i64 x.net]) rfl ((hr.to0 hz).elem hp hp1))<|cZ e53<|MP rfl<|MV (fun wz hz => EN ty43 rfl (vs := [.int .i64 x0.g, strV x0.key, .int .i64 x0.lease, .int .i64 x0.net]) rfl (hz.cellsR (i := 0) rfl rfl))<|MO rfl<|OX (EC gf40 rfl) (below16 _ _ _) (fun hp26 w6 Hd => ?_) (fun hp26 w6 Hd => ?_)
 have H6 := H5.callN Hd
 refine OE ?_
 refine ⟨fun hne => absurd rfl hne, ?_⟩
 refine ME<|cR e53<|J3 rfl<|J2<|Xm rfl<|Xm rfl<|Xm rfl<|OV (EI Tryz.underlying24 ty43 rfl rfl (len := l.length) (i := i) (by omega) (by omega) rfl)<|cOp e53<|OV (EN ty43 rfl (vs := [.int .i64 x.g, strV x.key, .int .i64 x.lease, .int .i64 x.net]) rfl ((hr.to0 H6).elem hp hp1))<|ops_buildSlice Tryz.underlying24 ty43 H6 (cs := [.int .i64 x.g, strV x.key, .int .i64 x.lease, .int .i64 x.net]) rfl (by decide) rfl<|fun w7 gk H7 _=>ops_grow Tryz.underlying24 ty43 (by decide) H7 1 (qs := us.map rtC) hG rfl rfl (rs := [[.int .i64 x.g, strV x.key, .int .i64 x.lease, .int .i64 x.net]]) (m := 1) rfl rfl (H7.rd (i := 3) (o := some _) (xs := [.int .i64 x.g, strV x.key, .int .i64 x.lease, .int .i64 x.net]) (sp := []) rfl rfl (by decide)) (Pl.one rfl) (fun p hp => by rw [List.mem_singleton.1 hp]; rfl) (by rw [List.length_map]; omega) (by rw [List.length_map]; omega) (by decide)<|fun w8 g2 cap2 sp2 H8 hG2=>?_
 have hm2 : us.map rtC ++ [[.int .i64 x.g, strV x.key, .int .i64 x.lease, .int .i64 x.net]] = (us ++ [x]).map rtC := by rw [List.map_append]; rfl
 rw [hm2] at H8 hG2 ⊢
 refine Xa rfl<|Xr e53<|J1<|run_mixZ 5 [(true, 0), (true, 1), (true, 2), (true, 3), (true, 4), (false, 5)] H8 [0, 1, 2, 3] mixed (by decide) (by kernel_rfl) ?_
 rintro w9 hw9
 have H9 := Hp.drew H8; rw [← hw9] at H9
 refine MP rfl<|MV (fun wz hz => EN ty43 rfl (vs := [.int .i64 x0.g, strV x0.key, .int .i64 x0.lease, .int .i64 x0.net]) rfl (hz.cellsR (i := 0) rfl rfl))<|Zm rfl rfl<|Zm rfl rfl<|MP rfl<|MV (fun wz hz => EI Tryz.underlying24 ty43 rfl rfl (len := l.length) (i := i) (by omega) (by omega) rfl)<|cZ e53<|MP rfl<|MV (fun wz hz => EN ty43 rfl (vs := [.int .i64 x.g, strV x.key, .int .i64 x.lease, .int .i64 x.net]) rfl ((hr.to0 hz).elem hp hp1))<|MO rfl<|OX (EC gf40 rfl) (below16 _ _ _) (fun hp39 w10 Hd => ?_) (fun hp39 w10 Hd => ?_)
 have H10 := H9.callN Hd
 refine OE ?_
 refine ⟨fun hne => absurd rfl hne, ?_⟩
 refine ME<|cR e53<|J3 rfl<|J2<|Xm rfl<|Xm rfl<|Xm rfl<|OV (EI Tryz.underlying24 ty43 rfl rfl (len := l.length) (i := i) (by omega) (by omega) rfl)<|cOp e53<|OV (EN ty43 rfl (vs := [.int .i64 x.g, strV x.key, .int .i64 x.lease, .int .i64 x.net]) rfl ((hr.to0 H10).elem hp hp1))<|ops_buildSlice Tryz.underlying24 ty43 H10 (cs := [.int .i64 x.g, strV x.key, .int .i64 x.lease, .int .i64 x.net]) rfl (by decide) rfl<|fun w11 gq H11 _=>ops_grow Tryz.underlying24 ty43 (by decide) H11 2 (qs := vs.map rtC) hG6 rfl rfl (rs := [[.int .i64 x.g, strV x.key, .int .i64 x.lease, .int .i64 x.net]]) (m := 1) rfl rfl (H11.rd (i := 4) (o := some _) (xs := [.int .i64 x.g, strV x.key, .int .i64 x.lease, .int .i64 x.net]) (sp := []) rfl rfl (by decide)) (Pl.one rfl) (fun p hp => by rw [List.mem_singleton.1 hp]; rfl) (by rw [List.length_map]; omega) (by rw [List.length_map]; omega) (by decide)<|fun w12 g5 cap5 sp5 H12 hG5=>?_
 have hm5 : vs.map rtC ++ [[.int .i64 x.g, strV x.key, .int .i64 x.lease, .int .i64 x.net]] = (vs ++ [x]).map rtC := by rw [List.map_append]; rfl
 rw [hm5] at H12 hG5 ⊢
 refine Xa rfl<|Xr e53<|run_nil (blk_normal ?_)
 refine J2<|Xm rfl<|OV (ex_add rfl rfl (IntWalk.i64_in _ (by omega)))<|Xa rfl<|Xr e53<|run_nil (rnd_normal ?_)
 exact ⟨l.length - (i + 1), by omega, i + 1, _, g2, cap2, us ++ [x], sp2, g5, cap5, vs ++ [x], sp5, rfl, (fs (fn (fn (fs (fn (fn (fs (fs (fs (fn (fn (fn (fn (fn (fn (fn (fn (fn (fn (fn (fn (fn (fn (fn (fn (fn (fn (fn (fn (fn (fn (fn (fn (fn (fn (fn (fn (fn (fn (fn (fn (fn (fn (fn (fn (fn (fn (fn (fn (fn (fn (fn (fn f0))))))))))))))))))))))))))))))))))))))))))))))))))))), by omega, by omega, by rw [hus, tf_t hx hp26], by rw [hvs, tf_t hx hp39], hG2, hG5, H12.pick [0, 1, 2] (by decide)⟩
 have H10 := H9.callN Hd
 refine OE ?_
 refine ⟨fun hne => absurd rfl hne, ?_⟩
 refine ME<|cR e53<|J4 rfl<|J6<|run_nil (blk_normal ?_)
 refine J2<|Xm rfl<|OV (ex_add rfl rfl (IntWalk.i64_in _ (by omega)))<|Xa rfl<|Xr e53<|run_nil (rnd_normal ?_)
 exact ⟨l.length - (i + 1), by omega, i + 1, _, g2, cap2, us ++ [x], sp2, g6, cap6, vs, sp6, rfl, (fs (fn (fn (fs (fn (fn (fs (fs (fs (fn (fn (fn (fn (fn (fn (fn (fn (fn (fn (fn (fn (fn (fn (fn (fn (fn (fn (fn (fn (fn (fn (fn (fn (fn (fn (fn (fn (fn (fn (fn (fn (fn (fn (fn (fn (fn (fn (fn (fn (fn (fn (fn (fn f0))))))))))))))))))))))))))))))))))))))))))))))))))))), by omega, by omega, by rw [hus, tf_t hx hp26], by rw [hvs, tf_f hx (by simpa using hp39)], hG2, hG6, H10.pick [0, 1, 2] (by decide)⟩
 have H6 := H5.callN Hd
 refine OE ?_
 refine ⟨fun hne => absurd rfl hne, ?_⟩
 refine ME<|cR e53<|J4 rfl<|J6<|J1<|run_mixZ 5 [(true, 0), (true, 1), (true, 2), (true, 3), (true, 4), (false, 5)] H6 [0, 1, 2] mixed (by decide) (by kernel_rfl) ?_
 rintro w7 hw7
 have H7 := Hp.drew H6; rw [← hw7] at H7
 refine MP rfl<|MV (fun wz hz => EN ty43 rfl (vs := [.int .i64 x0.g, strV x0.key, .int .i64 x0.lease, .int .i64 x0.net]) rfl (hz.cellsR (i := 0) rfl rfl))<|Zm rfl rfl<|Zm rfl rfl<|MP rfl<|MV (fun wz hz => EI Tryz.underlying24 ty43 rfl rfl (len := l.length) (i := i) (by omega) (by omega) rfl)<|cZ e53<|MP rfl<|MV (fun wz hz => EN ty43 rfl (vs := [.int .i64 x.g, strV x.key, .int .i64 x.lease, .int .i64 x.net]) rfl ((hr.to0 hz).elem hp hp1))<|MO rfl<|OX (EC gf40 rfl) (below16 _ _ _) (fun hp39 w8 Hd => ?_) (fun hp39 w8 Hd => ?_)
 have H8 := H7.callN Hd
 refine OE ?_
 refine ⟨fun hne => absurd rfl hne, ?_⟩
 refine ME<|cR e53<|J3 rfl<|J2<|Xm rfl<|Xm rfl<|Xm rfl<|OV (EI Tryz.underlying24 ty43 rfl rfl (len := l.length) (i := i) (by omega) (by omega) rfl)<|cOp e53<|OV (EN ty43 rfl (vs := [.int .i64 x.g, strV x.key, .int .i64 x.lease, .int .i64 x.net]) rfl ((hr.to0 H8).elem hp hp1))<|ops_buildSlice Tryz.underlying24 ty43 H8 (cs := [.int .i64 x.g, strV x.key, .int .i64 x.lease, .int .i64 x.net]) rfl (by decide) rfl<|fun w9 gq H9 _=>ops_grow Tryz.underlying24 ty43 (by decide) H9 2 (qs := vs.map rtC) hG6 rfl rfl (rs := [[.int .i64 x.g, strV x.key, .int .i64 x.lease, .int .i64 x.net]]) (m := 1) rfl rfl (H9.rd (i := 3) (o := some _) (xs := [.int .i64 x.g, strV x.key, .int .i64 x.lease, .int .i64 x.net]) (sp := []) rfl rfl (by decide)) (Pl.one rfl) (fun p hp => by rw [List.mem_singleton.1 hp]; rfl) (by rw [List.length_map]; omega) (by rw [List.length_map]; omega) (by decide)<|fun w10 g5 cap5 sp5 H10 hG5=>?_
 have hm5 : vs.map rtC ++ [[.int .i64 x.g, strV x.key, .int .i64 x.lease, .int .i64 x.net]] = (vs ++ [x]).map rtC := by rw [List.map_append]; rfl
 rw [hm5] at H10 hG5 ⊢
 refine Xa rfl<|Xr e53<|run_nil (blk_normal ?_)
 refine J2<|Xm rfl<|OV (ex_add rfl rfl (IntWalk.i64_in _ (by omega)))<|Xa rfl<|Xr e53<|run_nil (rnd_normal ?_)
 exact ⟨l.length - (i + 1), by omega, i + 1, _, g, cap, us, sp, g5, cap5, vs ++ [x], sp5, rfl, (fs (fn (fn (fs (fn (fn (fs (fs (fs (fn (fn (fn (fn (fn (fn (fn (fn (fn (fn (fn (fn (fn (fn (fn (fn (fn (fn (fn (fn (fn (fn (fn (fn (fn (fn (fn (fn (fn (fn (fn (fn (fn (fn (fn (fn (fn (fn (fn (fn (fn (fn (fn (fn f0))))))))))))))))))))))))))))))))))))))))))))))))))))), by omega, by omega, by rw [hus, tf_f hx (by simpa using hp26)], by rw [hvs, tf_t hx hp39], hG, hG5, H10.pick [0, 1, 2] (by decide)⟩
 have H8 := H7.callN Hd
 refine OE ?_
 refine ⟨fun hne => absurd rfl hne, ?_⟩
 refine ME<|cR e53<|J4 rfl<|J6<|run_nil (blk_normal ?_)
 refine J2<|Xm rfl<|OV (ex_add rfl rfl (IntWalk.i64_in _ (by omega)))<|Xa rfl<|Xr e53<|run_nil (rnd_normal ?_)
 exact ⟨l.length - (i + 1), by omega, i + 1, _, g, cap, us, sp, g6, cap6, vs, sp6, rfl, (fs (fn (fn (fs (fn (fn (fs (fs (fs (fn (fn (fn (fn (fn (fn (fn (fn (fn (fn (fn (fn (fn (fn (fn (fn (fn (fn (fn (fn (fn (fn (fn (fn (fn (fn (fn (fn (fn (fn (fn (fn (fn (fn (fn (fn (fn (fn (fn (fn (fn (fn (fn (fn f0))))))))))))))))))))))))))))))))))))))))))))))))))))), by omega, by omega, by rw [hus, tf_f hx (by simpa using hp26)], by rw [hvs, tf_f hx (by simpa using hp39)], hG, hG6, H8.pick [0, 1, 2] (by decide)⟩
 obtain rfl : i = l.length := by omega
 have hul : us.length ≤ l.length := by rw [hus]; exact tf_len
 have hvl : vs.length ≤ l.length := by rw [hvs]; exact tf_len
 rw [List.take_length] at hus hvs
 refine Xr e53<|J4 rfl<|J8<|rnd_exit<|blk_exit<|Rq<|Xm rfl<|OV (EN ty43 rfl (vs := [.int .i64 x0.g, strV x0.key, .int .i64 x0.lease, .int .i64 x0.net]) rfl (H4.cellsR (i := 0) rfl rfl))<|ops_buildSlice Tryz.underlying24 ty43 H4 (cs := [.int .i64 x0.g, strV x0.key, .int .i64 x0.lease, .int .i64 x0.net]) rfl (by decide) rfl<|fun w5 gk H5 _=>ops_grow Tryz.underlying24 ty43 (by decide) H5 1 (qs := us.map rtC) hG rfl rfl (rs := [[.int .i64 x0.g, strV x0.key, .int .i64 x0.lease, .int .i64 x0.net]]) (m := 1) rfl rfl (H5.rd (i := 3) (o := some _) (xs := [.int .i64 x0.g, strV x0.key, .int .i64 x0.lease, .int .i64 x0.net]) (sp := []) rfl rfl (by decide)) (Pl.one rfl) (fun p hp => by rw [List.mem_singleton.1 hp]; rfl) (by rw [List.length_map]; omega) (by rw [List.length_map]; omega) (by decide)<|fun w6 g2 cap2 sp2 H6 hG2=>?_
 have hm2 : us.map rtC ++ [[.int .i64 x0.g, strV x0.key, .int .i64 x0.lease, .int .i64 x0.net]] = (us ++ [x0]).map rtC := by rw [List.map_append]; rfl
 rw [hm2] at H6 hG2 ⊢
 refine cOp e53<|Xm rfl<|ops_grow Tryz.underlying24 ty43 (by decide) H6 1 (qs := (us ++ [x0]).map rtC) hG2 rfl rfl (rs := (vs.map rtC))  rfl rfl (H6.rd (i := 2) (xs := (vs.map rtC).flatten) (sp := sp6) rfl hG6.2.2.2.len (by decide)) hG6.2.2.2 (rt_ones vs) (by simp only [List.length_map, List.length_append, List.length_cons, List.length_nil]; omega) (by simp only [List.length_map, List.length_append, List.length_cons, List.length_nil]; omega) (by decide)<|fun w7 g5 cap5 sp5 H7 hG5=>Xa rfl<|Xa rfl<|Xr e53<|J5<|FN2 rfl rfl rfl ?_
 have hq : (us ++ [x0]).map rtC ++ vs.map rtC = (putRt l x0).map rtC := by rw [← putRt_rows, hus, hvs, List.map_append]; rfl
 rw [hq] at H7 hG5 ⊢
 rw [List.length_map]
 refine ⟨fun _ => ⟨hd g5, cap5, rfl, Sl.row H7 (i := 1) rfl (rt_pl _) (by decide) (rt_rows _) (fun b hb => ?_)⟩, fun h => absurd hp13 h, H7.noRows⟩
 rcases H7.place (i := 1) (g := b) (by rw [hb]; rfl) with h | h
 cases h
 exact h
 have H3 := H2.callN Hd
 refine Xn rfl<|Xr e53<|J3 rfl<|Rq<|Xa rfl<|Xa rfl<|Xr e53<|J5<|FN2 rfl rfl rfl<|⟨fun h => absurd h hp13, fun _ => rfl, H3.noRows⟩
set_option maxRecDepth 100000 in
set_option maxHeartbeats 4000000 in
theorem right14 (A : Option Addr) (k : Nat) (l : List Mk)  (ok : Nat → Prop) (w0 : World) (hl : Sl MkR 7 w0 ok A l) (hso : mksOk 0 l) : Does Tryz.prog 41 #[.slice A l.length k] w0 (fun r w' => r = .bool true ∧ Hp w0 w' [] []) := by
 refine does_of Tryz.func41 Tryz.ntmps41 rfl<|cR e52 ?_
 have H := Hp.refl w0
 obtain ⟨ps, hp, hr, ha, h2⟩ := id hl
 have hlen := h2.len
 have hn := mks_len hso
 obtain ⟨hfit2, hrise⟩ := mks_rise hso
 refine Rq<|Xa rfl<|Xr e52<|Rq<|Xa rfl<|Xr e52<|J1<|Rq<|Xa rfl<|Xr e52<|J7<|run_loop (fun nQ lQ w => ∃ (i : Nat) (y m : Int), l.length - i = nQ ∧ Fits [some (.slice A l.length k), none, none, some (.int .i64 m), some (.int .i64 y), none, none, none, none, none, none, none, none, none, none, none, none, none, none, none, none, none, none, none, none, none, none, none, none, none, none, none, none, none, none, none, none, none, none, none, none, none, none, none, none, none, none, none, none, none, none, none] lQ ∧ y = (i : Int) ∧ i ≤ l.length ∧ mksOk m (l.drop i) ∧ Hp w0 w [] []) (l.length) ?_ ?_
 exact ⟨0, _, 0, rfl, (fs (fn (fn (fs (fs (fn (fn (fn (fn (fn (fn (fn (fn (fn (fn (fn (fn (fn (fn (fn (fn (fn (fn (fn (fn (fn (fn (fn (fn (fn (fn (fn (fn (fn (fn (fn (fn (fn (fn (fn (fn (fn (fn (fn (fn (fn (fn (fn (fn (fn (fn (fn f0)))))))))))))))))))))))))))))))))))))))))))))))))))), rfl, Nat.zero_le _, hso, H⟩
 rintro nQ lQ w1 ⟨i, y, m, rfl, hfit, rfl, hi, hinv, H1⟩
 obtain ⟨j, rfl⟩ := hfit.open
 refine cR e52 ?_
 clear hfit
 refine J1<|Rq<|Xm rfl<|Xm rfl<|OV (ES Tryz.underlying25 rfl)<|OT (ex_lss rfl rfl) (fun hp9 => ?_) (fun hp9 => ?_)
 have hil : i < l.length := by omega
 obtain ⟨x, hx⟩ := get_of hil
 obtain ⟨p1, hp1, hR⟩ := h2.get hx
 unfold MkR at hR
 subst hR
 obtain ⟨a1, ha1⟩ := hr.some_ (by omega)
 subst ha1
 rw [drop_cons hx] at hinv
 obtain ⟨hm1, hm2, hm3, hm4, hm5⟩ := hinv
 refine Xr e52<|J3 rfl<|J6<|J1<|J7<|Rq<|Xm rfl<|Xm rfl<|OV (EI Tryz.underlying25 ty63 rfl rfl rfl hil rfl)<|OV (EN ty63 rfl (vs := [.int .i64 x.client, .int .i64 x.seq, .bool false, .int .i64 0, .int .i64 0, .int .i64 0, .int .i64 0]) rfl ((hr.to0 H1).elem hp hp1))<|cOp e52<|OA ty63 H1<|fun w2 g2 H2 hg2=>OS ty63 H2 0 rfl rfl rfl rfl rfl (by first | decide | (simp; done) | simp [putAt]) rfl<|fun w3 H3=>Xr e52<|J1<|Rq<|Xf fl63_0 rfl<|OV (EL ty3 rfl (H3.cell (i := 0) rfl rfl))<|Xm rfl<|OT0 (ex_leq rfl rfl) (by omega)<|cOp e52<|Xm rfl<|OY rfl<|Xf fl63_0 rfl<|cOp e52<|OY rfl<|OV (EL ty3 rfl (H3.cell (i := 0) rfl rfl))<|OY rfl<|OT0 (ex_gtr rfl rfl) (by omega)<|Xu rfl rfl<|Xm rfl<|cOp e52<|OY rfl<|Xf fl63_1 rfl ?_
 refine OY rfl<|OV (EL ty3 rfl (H3.cell (i := 0) rfl rfl))<|cOp e52<|OY rfl<|OT0 (ex_lss rfl rfl) (by omega)<|Xu rfl rfl<|Xm rfl<|cOp e52<|OY rfl<|Xf fl63_1 rfl<|OY rfl<|OV (EL ty3 rfl (H3.cell (i := 0) rfl rfl))<|cOp e52<|OY rfl<|OT0 (ex_gtr rfl rfl) (by omega)<|Xu rfl rfl<|Xm rfl<|cOp e52<|OY rfl<|Xf fl63_2 rfl<|OY rfl<|OV (EL ty4 rfl (H3.cell (i := 0) rfl rfl))<|cOp e52<|OY rfl<|Xm rfl<|OZ rfl<|cOp e52<|OZ rfl<|OZ rfl<|cOp e52<|OZ rfl<|OZ rfl<|cOp e52<|OZ rfl<|OZ rfl<|cOp e52<|OZ rfl<|OZ rfl<|cOp e52<|OY rfl ?_
 refine Xu rfl rfl<|Xu rfl rfl<|Xr e52<|J4 rfl<|J6<|J2<|Xf fl63_0 rfl<|OV (EL ty3 rfl (H3.cell (i := 0) rfl rfl))<|Xa rfl<|Xr e52<|run_nil (blk_normal ?_)
 refine J2<|Xm rfl<|OV (ex_add rfl rfl (IntWalk.i64_in _ (by omega)))<|Xa rfl<|Xr e52<|run_nil (rnd_normal ?_)
 exact ⟨l.length - (i + 1), by omega, i + 1, _, x.client, rfl, (fs (fn (fn (fs (fs (fn (fn (fn (fn (fn (fn (fn (fn (fn (fn (fn (fn (fn (fn (fn (fn (fn (fn (fn (fn (fn (fn (fn (fn (fn (fn (fn (fn (fn (fn (fn (fn (fn (fn (fn (fn (fn (fn (fn (fn (fn (fn (fn (fn (fn (fn (fn f0)))))))))))))))))))))))))))))))))))))))))))))))))))), by omega, by omega, hm5, H3.noRows⟩
 refine Xr e52<|J4 rfl<|J8<|rnd_exit<|blk_exit<|Rq<|Xa rfl<|Xr e52<|J5<|FN1 rfl rfl<|⟨rfl, H1.noRows⟩
set_option maxRecDepth 100000 in
set_option maxHeartbeats 4000000 in
theorem find14 (A : Option Addr) (k : Nat) (l : List Mk) (c : Int) (ok : Nat → Prop) (w0 : World) (hl : Sl MkR 7 w0 ok A l) (hso : mksOk 0 l) : Does Tryz.prog 21 #[.slice A l.length k, .int .i64 c] w0 (fun r w' => (∀ m, findMk l c = some m → r = .tuple #[.agg (mkC m).toArray, .bool true]) ∧ (findMk l c = none → r = .tuple #[.agg (mkC ⟨0, 0⟩).toArray, .bool false]) ∧ Hp w0 w' [] []) := by
 refine does_of Tryz.func21 Tryz.ntmps21 rfl<|cR e29 ?_
 have H := Hp.refl w0
 obtain ⟨ps, hp, hr, ha, h2⟩ := id hl
 have hlen := h2.len
 have hn := mks_len hso
 obtain ⟨hfit2, hrise⟩ := mks_rise hso
 refine Rq<|OA ty63 H<|fun w1 gm H1 _=>Xa rfl<|Xr e29<|J1<|Rq<|Xa rfl<|Xr e29<|J7<|run_loop (fun nQ lQ w => ∃ (i : Nat) (y : Int), l.length - i = nQ ∧ Fits [some (.slice A l.length k), some (.int .i64 c), none, none, some (.pointer (some ⟨gm, 0, none⟩)), none, some (.int .i64 y), none, none, none, none, none, none, none, none, none, none, none, none, none, none, none, none, none, none, none, none, none, none] lQ ∧ y = (i : Int) ∧ i ≤ l.length ∧ (∀ z ∈ l.take i, z.client ≠ c) ∧ Hp w0 w [] [((some gm, 63, [.int .i64 0, .int .i64 0, .bool false, .int .i64 0, .int .i64 0, .int .i64 0, .int .i64 0]) : Ent)]) (l.length) ?_ ?_
 exact ⟨0, _, rfl, (fs (fs (fn (fn (fs (fn (fs (fn (fn (fn (fn (fn (fn (fn (fn (fn (fn (fn (fn (fn (fn (fn (fn (fn (fn (fn (fn (fn (fn f0))))))))))))))))))))))))))))), rfl, Nat.zero_le _, (fun z hz => by cases hz), H1⟩
 rintro nQ lQ w2 ⟨i, y, rfl, hfit, rfl, hi, hno, H2⟩
 obtain ⟨j, rfl⟩ := hfit.open
 refine cR e29 ?_
 clear hfit
 refine J1<|Rq<|Xm rfl<|OC (EC gf41 rfl) (right14 A k l ok _ (hl.toM H2 k0) hso)<|fun w3 Hd=>have H3:=H2.callN Hd;Xm rfl<|cOp e29<|OY rfl<|Xm rfl<|OY rfl<|Xm rfl<|cOp e29<|OY rfl<|OV (ES Tryz.underlying25 rfl)<|OY rfl<|OT (ex_lss rfl rfl) (fun hp13 => ?_) (fun hp13 => ?_)
 have hil : i < l.length := by omega
 obtain ⟨x, hx⟩ := get_of hil
 obtain ⟨p1, hp1, hR⟩ := h2.get hx
 unfold MkR at hR
 subst hR
 obtain ⟨a1, ha1⟩ := hr.some_ (by omega)
 subst ha1
 refine Xt rfl rfl<|Xr e29<|J3 rfl<|J6<|J1<|J7<|Rq<|Xm rfl<|Xm rfl<|OV (EI Tryz.underlying25 ty63 rfl rfl rfl hil rfl)<|OV (ex_fieldAddrA fl63_0 rfl)<|cOp e29<|OV (EL ty3 rfl (((hr.to0 H3).elem hp hp1) 0 _ rfl))<|Xm rfl<|OT (ex_eql rfl rfl) (fun hp23 => ?_) (fun hp23 => ?_)
 refine Xr e29<|J3 rfl<|Rq<|Xm rfl<|Xm rfl<|OV (EI Tryz.underlying25 ty63 rfl rfl rfl hil rfl)<|OV (EN ty63 rfl (vs := [.int .i64 x.client, .int .i64 x.seq, .bool false, .int .i64 0, .int .i64 0, .int .i64 0, .int .i64 0]) rfl ((hr.to0 H3).elem hp hp1))<|cOp e29<|OS ty63 H3 0 rfl rfl rfl rfl rfl (by first | decide | (simp; done) | simp [putAt]) rfl<|fun w4 H4=>Xa rfl<|Xr e29<|J5<|BR<|rnd_ret<|BR<|fin_cell_tmp rfl ty63 (cs := [.int .i64 x.client, .int .i64 x.seq, .bool false, .int .i64 0, .int .i64 0, .int .i64 0, .int .i64 0]) rfl rfl rfl (H4.cellsR (i := 0) rfl rfl) ?_
 have hf := find_at hx hp23 hno
 exact ⟨(fun m hm => by rw [hf] at hm; cases hm; rfl), (fun hm => by rw [hf] at hm; cases hm), H4.noRows⟩
 refine Xr e29<|J4 rfl<|J6<|run_nil (blk_normal ?_)
 refine J2<|Xm rfl<|OV (ex_add rfl rfl (IntWalk.i64_in _ (by omega)))<|Xa rfl<|Xr e29<|run_nil (rnd_normal ?_)
 exact ⟨l.length - (i + 1), by omega, i + 1, _, rfl, (fs (fs (fn (fn (fs (fn (fs (fn (fn (fn (fn (fn (fn (fn (fn (fn (fn (fn (fn (fn (fn (fn (fn (fn (fn (fn (fn (fn (fn f0))))))))))))))))))))))))))))), by omega, by omega, (fun z hz => by
   rw [List.take_add_one, hx] at hz
   rcases List.mem_append.1 hz with h | h
   · exact hno z h
   · rw [show z = x by simpa using h]; exact hp23), H3.pick [0] (by decide)⟩
 obtain rfl : i = l.length := by omega
 have hnone := find_end hno
 refine Xt rfl rfl<|Xr e29<|J4 rfl<|J8<|rnd_exit<|blk_exit<|Rq<|OV (EB ty63 pl63 rfl rfl)<|OS ty63 H3 0 rfl rfl rfl rfl rfl (by first | decide | (simp; done) | simp [putAt]) rfl<|fun w4 H4=>Xa rfl<|Xr e29<|J5<|fin_cell_tmp rfl ty63 (cs := [.int .i64 0, .int .i64 0, .bool false, .int .i64 0, .int .i64 0, .int .i64 0, .int .i64 0]) rfl rfl rfl (H4.cellsR (i := 0) rfl rfl)<|⟨(fun m hm => by rw [hnone] at hm; cases hm), (fun _ => rfl), H4.noRows⟩
set_option maxRecDepth 100000 in
set_option maxHeartbeats 16000000 in
theorem with14 (A : Option Addr) (k : Nat) (l : List Mk) (v : Mk) (ok : Nat → Prop) (w0 : World) (hl : Sl MkR 7 w0 ok A l) (hso : mksOk 0 l) (hv1 : 1 ≤ v.client ∧ v.client ≤ 8) (hv2 : 1 ≤ v.seq ∧ v.seq ≤ 4611686018427387904) : Does Tryz.prog 24 #[.slice A l.length k, .agg [.int .i64 v.client, .int .i64 v.seq, .bool false, .int .i64 0, .int .i64 0, .int .i64 0, .int .i64 0].toArray] w0 (fun r w' => ∃ A' k', r = .slice A' (putMk l v).length k' ∧ Sl MkR 7 w' (fun b => w0.heap.size ≤ b) A' (putMk l v) ∧ Hp w0 w' [] []) := by
 refine does_of Tryz.func24 Tryz.ntmps24 rfl<|cR e35 ?_
 have H := Hp.refl w0
 obtain ⟨ps, hp, hr, ha, h2⟩ := id hl
 have hlen := h2.len
 have hn := mks_len hso
 obtain ⟨hfit2, hrise⟩ := mks_rise hso
 have hput := mks_put hso hv1 hv2
 have hpl := mks_len hput
 refine Rq<|ops_box rfl rfl H<|fun w1 gv H1 _=>Xa rfl<|Xr e35<|Rq<|Xa rfl<|Xr e35<|J1<|Rq<|Xa rfl<|Xr e35<|J7<|run_loop (fun nQ lQ w => ∃ (y : Int) (g : Option Nat) (cap : Nat) (ms : List Mk) (sp : List Value), (9 - y).toNat = nQ ∧ Fits [some (.slice A l.length k), none, none, some (.pointer (some ⟨gv, 0, none⟩)), none, some (.slice (hd g) (ms.map mkC).length cap), some (.int .i64 y), none, none, none, none, none, none, none, none, none, none, none, none, none, none, none, none, none, none, none, none, none, none, none, none, none, none, none, none] lQ ∧ 1 ≤ y ∧ y ≤ 9 ∧ ms = ((putMk l v).filter fun z => decide (z.client < y)) ∧ Gw 7 g cap (ms.map mkC) sp ∧ Hp w0 w [] [((some gv, 63, [.int .i64 v.client, .int .i64 v.seq, .bool false, .int .i64 0, .int .i64 0, .int .i64 0, .int .i64 0]) : Ent), ((g, 63, (ms.map mkC).flatten ++ sp) : Ent)]) (8) ?_ ?_
 exact ⟨1, none, 0, [], [], rfl, (fs (fn (fn (fs (fn (fs (fs (fn (fn (fn (fn (fn (fn (fn (fn (fn (fn (fn (fn (fn (fn (fn (fn (fn (fn (fn (fn (fn (fn (fn (fn (fn (fn (fn (fn f0))))))))))))))))))))))))))))))))))), by decide, by decide, (none_put hput).symm, Gw.nil 7, H1.nil 63⟩
 rintro nQ lQ w2 ⟨y, g, cap, ms, sp, rfl, hfit, hy1, hy9, hms, hG, H2⟩
 obtain ⟨j, rfl⟩ := hfit.open
 refine cR e35 ?_
 clear hfit
 refine J1<|Rq<|Xm rfl<|OT (ex_leq rfl rfl) (fun hp10 => ?_) (fun hp10 => ?_)
 have hml : ms.length ≤ (putMk l v).length := by rw [hms]; exact List.length_filter_le _ _
 have hst := step_mk (c := y) hput
 rw [← hms, find_put] at hst
 refine Xr e35<|J3 rfl<|J6<|J1<|J7<|Rq<|Xm rfl<|Xm rfl<|OQ (EC gf21 rfl) (find14 A k l y ok _ (hl.toM H2 k0) hso) ?_
 rintro r w3 ⟨hyes, hno, Hd⟩
 have H3 := H2.callN Hd
 cases hfm : findMk l y
 obtain rfl := hno hfm
 refine Xm rfl<|Xe rfl rfl<|cOp e35<|Xe rfl rfl<|OA ty63 H3<|fun w4 gz H4 _=>OS ty63 H4 2 (vs := [.int .i64 (⟨0, 0⟩ : Mk).client, .int .i64 (⟨0, 0⟩ : Mk).seq, .bool false, .int .i64 0, .int .i64 0, .int .i64 0, .int .i64 0]) rfl rfl rfl rfl rfl (Nat.le_refl 7) rfl<|fun w5 H5=>Xa rfl<|Xr e35<|J7<|Rq<|Xm rfl<|Xf fl63_0 rfl<|OV (EL ty3 rfl (H5.cell (i := 0) rfl rfl))<|OT (ex_eql rfl rfl) (fun hp23 => ?_) (fun hp23 => ?_)
 refine Xa rfl<|Xr e35<|J3 rfl<|J2<|Xm rfl<|OV (EN ty63 rfl (vs := [.int .i64 v.client, .int .i64 v.seq, .bool false, .int .i64 0, .int .i64 0, .int .i64 0, .int .i64 0]) rfl (H5.cellsR (i := 0) rfl rfl))<|ops_buildSlice Tryz.underlying25 ty63 H5 (cs := [.int .i64 v.client, .int .i64 v.seq, .bool false, .int .i64 0, .int .i64 0, .int .i64 0, .int .i64 0]) rfl (by decide) rfl<|fun w6 gk H6 _=>ops_grow Tryz.underlying25 ty63 (by decide) H6 1 (qs := ms.map mkC) hG rfl rfl (rs := [[.int .i64 v.client, .int .i64 v.seq, .bool false, .int .i64 0, .int .i64 0, .int .i64 0, .int .i64 0]]) (m := 1) rfl rfl (H6.rd (i := 3) (o := some _) (xs := [.int .i64 v.client, .int .i64 v.seq, .bool false, .int .i64 0, .int .i64 0, .int .i64 0, .int .i64 0]) (sp := []) rfl rfl (by decide)) (Pl.one rfl) (fun p hp => by rw [List.mem_singleton.1 hp]; rfl) (by rw [List.length_map]; omega) (by rw [List.length_map]; omega) (by decide)<|fun w7 g2 cap2 sp2 H7 hG2=>?_
 have hm2 : ms.map mkC ++ [[.int .i64 v.client, .int .i64 v.seq, .bool false, .int .i64 0, .int .i64 0, .int .i64 0, .int .i64 0]] = (ms ++ [v]).map mkC := by rw [List.map_append]; rfl
 rw [hm2] at H7 hG2 ⊢
 refine cOp e35<|Xa rfl<|Xr e35<|run_nil (blk_normal ?_)
 refine run_nil (blk_normal ?_)
 refine J2<|Xm rfl<|OV (ex_add rfl rfl (IntWalk.i64_in _ (by omega)))<|Xa rfl<|Xr e35<|run_nil (rnd_normal ?_)
 exact ⟨(9 - (y + 1)).toNat, by omega, y + 1, g2, cap2, ms ++ [v], sp2, rfl, (fs (fn (fn (fs (fn (fs (fs (fn (fn (fn (fn (fn (fn (fn (fn (fn (fn (fn (fn (fn (fn (fn (fn (fn (fn (fn (fn (fn (fn (fn (fn (fn (fn (fn (fn f0))))))))))))))))))))))))))))))))))), by omega, by omega, by rw [hst, if_pos hp23]; rfl, hG2, H7.pick [0, 1] (by decide)⟩
 refine Xa rfl<|Xr e35<|J4 rfl<|Rq<|Xm rfl<|Xa rfl<|Xr e35<|J4 rfl<|J6<|run_nil (blk_normal ?_)
 refine run_nil (blk_normal ?_)
 refine J2<|Xm rfl<|OV (ex_add rfl rfl (IntWalk.i64_in _ (by omega)))<|Xa rfl<|Xr e35<|run_nil (rnd_normal ?_)
 exact ⟨(9 - (y + 1)).toNat, by omega, y + 1, g, cap, ms, sp, rfl, (fs (fn (fn (fs (fn (fs (fs (fn (fn (fn (fn (fn (fn (fn (fn (fn (fn (fn (fn (fn (fn (fn (fn (fn (fn (fn (fn (fn (fn (fn (fn (fn (fn (fn (fn f0))))))))))))))))))))))))))))))))))), by omega, by omega, by rw [hst, if_neg hp23, hfm]; exact (List.append_nil _).symm, hG, H5.pick [0, 1] (by decide)⟩
 rename_i o
 obtain rfl := hyes o hfm
 refine Xm rfl<|Xe rfl rfl<|cOp e35<|Xe rfl rfl<|OA ty63 H3<|fun w4 gz H4 _=>OS ty63 H4 2 (vs := [.int .i64 o.client, .int .i64 o.seq, .bool false, .int .i64 0, .int .i64 0, .int .i64 0, .int .i64 0]) rfl rfl rfl rfl rfl (Nat.le_refl 7) rfl<|fun w5 H5=>Xa rfl<|Xr e35<|J7<|Rq<|Xm rfl<|Xf fl63_0 rfl<|OV (EL ty3 rfl (H5.cell (i := 0) rfl rfl))<|OT (ex_eql rfl rfl) (fun hp23 => ?_) (fun hp23 => ?_)
 refine Xa rfl<|Xr e35<|J3 rfl<|J2<|Xm rfl<|OV (EN ty63 rfl (vs := [.int .i64 v.client, .int .i64 v.seq, .bool false, .int .i64 0, .int .i64 0, .int .i64 0, .int .i64 0]) rfl (H5.cellsR (i := 0) rfl rfl))<|ops_buildSlice Tryz.underlying25 ty63 H5 (cs := [.int .i64 v.client, .int .i64 v.seq, .bool false, .int .i64 0, .int .i64 0, .int .i64 0, .int .i64 0]) rfl (by decide) rfl<|fun w6 gk H6 _=>ops_grow Tryz.underlying25 ty63 (by decide) H6 1 (qs := ms.map mkC) hG rfl rfl (rs := [[.int .i64 v.client, .int .i64 v.seq, .bool false, .int .i64 0, .int .i64 0, .int .i64 0, .int .i64 0]]) (m := 1) rfl rfl (H6.rd (i := 3) (o := some _) (xs := [.int .i64 v.client, .int .i64 v.seq, .bool false, .int .i64 0, .int .i64 0, .int .i64 0, .int .i64 0]) (sp := []) rfl rfl (by decide)) (Pl.one rfl) (fun p hp => by rw [List.mem_singleton.1 hp]; rfl) (by rw [List.length_map]; omega) (by rw [List.length_map]; omega) (by decide)<|fun w7 g2 cap2 sp2 H7 hG2=>?_
 have hm2 : ms.map mkC ++ [[.int .i64 v.client, .int .i64 v.seq, .bool false, .int .i64 0, .int .i64 0, .int .i64 0, .int .i64 0]] = (ms ++ [v]).map mkC := by rw [List.map_append]; rfl
 rw [hm2] at H7 hG2 ⊢
 refine cOp e35<|Xa rfl<|Xr e35<|run_nil (blk_normal ?_)
 refine run_nil (blk_normal ?_)
 refine J2<|Xm rfl<|OV (ex_add rfl rfl (IntWalk.i64_in _ (by omega)))<|Xa rfl<|Xr e35<|run_nil (rnd_normal ?_)
 exact ⟨(9 - (y + 1)).toNat, by omega, y + 1, g2, cap2, ms ++ [v], sp2, rfl, (fs (fn (fn (fs (fn (fs (fs (fn (fn (fn (fn (fn (fn (fn (fn (fn (fn (fn (fn (fn (fn (fn (fn (fn (fn (fn (fn (fn (fn (fn (fn (fn (fn (fn (fn f0))))))))))))))))))))))))))))))))))), by omega, by omega, by rw [hst, if_pos hp23]; rfl, hG2, H7.pick [0, 1] (by decide)⟩
 refine Xa rfl<|Xr e35<|J4 rfl<|Rq<|Xm rfl<|Xa rfl<|Xr e35<|J3 rfl<|J2<|Xm rfl<|OV (EN ty63 rfl (vs := [.int .i64 o.client, .int .i64 o.seq, .bool false, .int .i64 0, .int .i64 0, .int .i64 0, .int .i64 0]) rfl (H5.cellsR (i := 2) rfl rfl))<|ops_buildSlice Tryz.underlying25 ty63 H5 (cs := [.int .i64 o.client, .int .i64 o.seq, .bool false, .int .i64 0, .int .i64 0, .int .i64 0, .int .i64 0]) rfl (by decide) rfl<|fun w6 gk H6 _=>ops_grow Tryz.underlying25 ty63 (by decide) H6 1 (qs := ms.map mkC) hG rfl rfl (rs := [[.int .i64 o.client, .int .i64 o.seq, .bool false, .int .i64 0, .int .i64 0, .int .i64 0, .int .i64 0]]) (m := 1) rfl rfl (H6.rd (i := 3) (o := some _) (xs := [.int .i64 o.client, .int .i64 o.seq, .bool false, .int .i64 0, .int .i64 0, .int .i64 0, .int .i64 0]) (sp := []) rfl rfl (by decide)) (Pl.one rfl) (fun p hp => by rw [List.mem_singleton.1 hp]; rfl) (by rw [List.length_map]; omega) (by rw [List.length_map]; omega) (by decide)<|fun w7 g2 cap2 sp2 H7 hG2=>?_
 have hm2 : ms.map mkC ++ [[.int .i64 o.client, .int .i64 o.seq, .bool false, .int .i64 0, .int .i64 0, .int .i64 0, .int .i64 0]] = (ms ++ [o]).map mkC := by rw [List.map_append]; rfl
 rw [hm2] at H7 hG2 ⊢
 refine cOp e35<|Xa rfl<|Xr e35<|run_nil (blk_normal ?_)
 refine run_nil (blk_normal ?_)
 refine J2<|Xm rfl<|OV (ex_add rfl rfl (IntWalk.i64_in _ (by omega)))<|Xa rfl<|Xr e35<|run_nil (rnd_normal ?_)
 exact ⟨(9 - (y + 1)).toNat, by omega, y + 1, g2, cap2, ms ++ [o], sp2, rfl, (fs (fn (fn (fs (fn (fs (fs (fn (fn (fn (fn (fn (fn (fn (fn (fn (fn (fn (fn (fn (fn (fn (fn (fn (fn (fn (fn (fn (fn (fn (fn (fn (fn (fn (fn f0))))))))))))))))))))))))))))))))))), by omega, by omega, by rw [hst, if_neg hp23, hfm]; rfl, hG2, H7.pick [0, 1] (by decide)⟩
 obtain rfl : y = 9 := by omega
 rw [all_put hput] at hms
 subst hms
 refine Xr e35<|J4 rfl<|J8<|rnd_exit<|blk_exit<|Rq<|Xm rfl<|Xa rfl<|Xr e35<|J5<|FN1 rfl rfl ?_
 rw [List.length_map]
 refine ⟨hd g, cap, rfl, Sl.row H2 (i := 1) rfl (mk_pl _) (by decide) (mk_rows _) (fun b hb => ?_), H2.noRows⟩
 rcases H2.place (i := 1) (g := b) (by rw [hb]; rfl) with h | h
 cases h
 exact h
end Go.Proofs.YtbninklfoogmdaaGreat
/- Walks of layer 2, printed by wip/gen/codec.py. -/
namespace Go.Proofs.YtbninklfoogmdaaGreat
open Go Go.RowKit
set_option linter.unusedVariables false
attribute [local irreducible] Still Ops Does Cd
set_option maxRecDepth 100000 in
set_option maxHeartbeats 4000000 in
theorem last_r (s : Sv) (A1 : Option Addr) (k1 : Nat) (A2 : Option Addr) (k2 : Nat) (A3 : Option Addr) (k3 : Nat) (w0 : World) (hx : -1000000000000000000 ≤ s.index ∧ s.index ≤ 1000000000000000000) (hm : s.entries.length ≤ 1000000000000000000) : Does Tryz.prog 43 #[.agg [.int .i64 s.p.r, .int .i64 s.p.n, .slice A1 s.votes.length k1, .int .i64 s.index, .slice A2 s.image.length k2, .slice A3 s.entries.length k3].toArray] w0 (fun r w' => r = .int .i64 (s.index + s.entries.length) ∧ Hp w0 w' [] []) := by
 refine does_of Tryz.func43 Tryz.ntmps43 rfl<|cR e9 ?_
 have H := Hp.refl w0
 refine Rq<|ops_box rfl rfl H<|fun w1 g1 H1 hg1=>Xa rfl<|Xr e9<|Rq<|Xf fl57_2 rfl<|OV (EL ty3 rfl (H1.cell (i := 0) rfl rfl))<|Xf fl57_4 rfl<|OV (EL ty55 rfl (H1.cell (i := 0) rfl rfl))<|cOp e9<|OV (ES Tryz.underlying55 rfl)<|OV (ex_add rfl rfl (IntWalk.i64_in _ (by omega)))<|Xa rfl<|Xr e9<|J5<|FN1 rfl rfl<|⟨rfl, H1.noRows⟩
set_option maxRecDepth 100000 in
set_option maxHeartbeats 4000000 in
theorem raise_r (gs : Nat) (p b : Bal) (c2 c3 c4 c5 : Value) (w0 : World) (hrow : w0.heap[gs]? = some (.cells [.int .i64 p.r, .int .i64 p.n, c2, c3, c4, c5].toArray 57 (0, 0))) : Does Tryz.prog 42 #[.pointer (some ⟨gs, 0, none⟩), .agg [.int .i64 b.r, .int .i64 b.n].toArray] w0 (fun _ w' => Hp w0 w' [gs] [((some gs, 57, [.int .i64 (rz p b).r, .int .i64 (rz p b).n, c2, c3, c4, c5]) : Ent)]) := by
 refine does_of Tryz.func42 Tryz.ntmps42 rfl<|cR e14 ?_
 have H := Hp.old hrow
 refine Rq<|ops_box rfl rfl H<|fun w1 g1 H1 hg1=>Xr e14<|J1<|run_mixZ 5 [(true, 0), (true, 1), (true, 2), (true, 3), (true, 4), (false, 5)] H1 [0, 1] mixed (by decide) (by kernel_rfl) ?_
 rintro w2 hw2
 have H2 := Hp.drew H1; rw [← hw2] at H2
 refine Zm rfl rfl<|Zc rfl rfl<|Zf rfl fl57_0 rfl<|MP rfl<|MV (fun wz hz => EN ty36 rfl (vs := [.int .i64 p.r, .int .i64 p.n]) rfl (hz.cellsR (i := 0) rfl rfl))<|cZ e14<|MP rfl<|MV (fun wz hz => EN ty36 rfl (vs := [.int .i64 b.r, .int .i64 b.n]) rfl (hz.cellsR (i := 1) rfl rfl))<|MO rfl<|OX (EC gf68 rfl) (less9 _ _ _) (fun hp9 w3 Hd => ?_) (fun hp9 w3 Hd => ?_)
 have H3 := H2.callN Hd
 refine OE ?_
 refine ⟨fun hne => absurd rfl hne, ?_⟩
 refine ME<|cR e14<|J3 rfl<|J2<|Xm rfl<|OV (EN ty36 rfl (vs := [.int .i64 b.r, .int .i64 b.n]) rfl (H3.cellsR (i := 1) rfl rfl))<|Xc rfl<|Xf fl57_0 rfl<|cOp e14<|OS ty36 H3 0 rfl rfl rfl rfl rfl (by first | decide | (simp; done) | simp [putAt]) rfl<|fun w4 H4=>Xr e14<|run_nil<|fin_end0 rfl ?_
 unfold rz
 rw [if_pos hp9]
 exact H4.pick [0] (by decide)
 have H3 := H2.callN Hd
 refine OE ?_
 refine ⟨fun hne => absurd rfl hne, ?_⟩
 refine ME<|cR e14<|J4 rfl<|J6<|run_nil<|fin_end0 rfl ?_
 unfold rz
 rw [if_neg hp9]
 exact H3.pick [0] (by decide)
set_option maxRecDepth 100000 in
set_option maxHeartbeats 4000000 in
theorem behind_r (A : Option Addr) (k : Nat) (ps : List (List Value)) (l : List Vt) (n : Int) (ok : Nat → Prop) (w0 : World) (hp : Pl 4 ps) (hr : Rd w0 A l.length 4 ps.flatten) (h2 : All2 (VtR w0 ok) ps l) (hn : l.length ≤ 1000000000000) : Does Tryz.prog 45 #[.slice A l.length k, .int .i64 n] w0 (fun r w' => ∃ g cap sp, r = .slice (hd g) (ps.filter fun p => !vtLe n p).length cap ∧ Gw 4 g cap (ps.filter fun p => !vtLe n p) sp ∧ Hp w0 w' [] [((g, 39, (ps.filter fun p => !vtLe n p).flatten ++ sp) : Ent)]) := by
 refine does_of Tryz.func45 Tryz.ntmps45 rfl<|cR e28 ?_
 have H := Hp.refl w0
 have hlen := h2.len
 refine Rq<|Xa rfl<|Xr e28<|Rq<|Xa rfl<|Xr e28<|J1<|Rq<|Xa rfl<|Xr e28<|J7<|run_loop (fun nQ lQ w => ∃ (i : Nat) (y : Int) (g : Option Nat) (cap : Nat) (qs : List (List Value)) (sp : List Value), l.length - i = nQ ∧ Fits [some (.slice A l.length k), some (.int .i64 n), none, none, none, some (.slice (hd g) qs.length cap), some (.int .i64 y), none, none, none, none, none, none, none, none, none, none, none, none, none, none, none, none, none, none, none, none, none] lQ ∧ y = (i : Int) ∧ i ≤ l.length ∧ qs = (ps.take i).filter (fun p => !vtLe n p) ∧ Gw 4 g cap qs sp ∧ Hp w0 w [] [((g, 39, qs.flatten ++ sp) : Ent)]) (l.length) ?_ ?_
 exact ⟨0, _, none, 0, [], [], rfl, (fs (fs (fn (fn (fn (fs (fs (fn (fn (fn (fn (fn (fn (fn (fn (fn (fn (fn (fn (fn (fn (fn (fn (fn (fn (fn (fn (fn f0)))))))))))))))))))))))))))), rfl, Nat.zero_le _, rfl, Gw.nil 4, H.nil 39⟩
 rintro nQ lQ w1 ⟨i, y, g, cap, qs, sp, rfl, hfit, rfl, hi, hqs, hG, H1⟩
 obtain ⟨j, rfl⟩ := hfit.open
 refine cR e28 ?_
 clear hfit
 refine J1<|Rq<|Xm rfl<|Xm rfl<|OV (ES Tryz.underlying54 rfl)<|OT (ex_lss rfl rfl) (fun hp10 => ?_) (fun hp10 => ?_)
 have hil : i < l.length := by omega
 obtain ⟨x, hx⟩ := get_of hil
 obtain ⟨p1, hp1, hR⟩ := h2.get hx
 obtain ⟨Ax, kx, rfl, hbx⟩ := hR
 obtain ⟨a1, ha1⟩ := hr.some_ (by omega)
 subst ha1
 have hql : qs.length ≤ i := by rw [hqs]; exact tf_len
 refine Xr e28<|J3 rfl<|J6<|J1<|J7<|Rq<|Xm rfl<|Xm rfl<|OV (EI Tryz.underlying54 ty39 rfl rfl rfl hil rfl)<|OV (ex_fieldAddrA fl39_0 rfl)<|cOp e28<|OV (EL ty3 rfl (((hr.to0 H1).elem hp hp1) 0 _ rfl))<|Xm rfl<|OT (ex_gtr rfl rfl) (fun hp19 => ?_) (fun hp19 => ?_)
 have hf1 : (!vtLe n [.int .i64 x.slot, .int .i64 x.b.r, .int .i64 x.b.n, .slice Ax x.val.length kx]) = true := by show (!decide (x.slot ≤ n)) = true; rw [decide_eq_false (by omega)]; rfl
 refine Xr e28<|J3 rfl<|J2<|Xm rfl<|Xm rfl<|Xm rfl<|OV (EI Tryz.underlying54 ty39 rfl rfl rfl hil rfl)<|cOp e28<|OV (EN ty39 rfl (vs := [.int .i64 x.slot, .int .i64 x.b.r, .int .i64 x.b.n, .slice Ax x.val.length kx]) rfl ((hr.to0 H1).elem hp hp1))<|ops_buildSlice Tryz.underlying54 ty39 H1 (cs := [.int .i64 x.slot, .int .i64 x.b.r, .int .i64 x.b.n, .slice Ax x.val.length kx]) rfl (by decide) rfl<|fun w2 gk H2 _=>ops_grow Tryz.underlying54 ty39 (by decide) H2 0 hG rfl rfl (rs := [[.int .i64 x.slot, .int .i64 x.b.r, .int .i64 x.b.n, .slice Ax x.val.length kx]]) (m := 1) rfl rfl (H2.rd (i := 1) (o := some _) (xs := [.int .i64 x.slot, .int .i64 x.b.r, .int .i64 x.b.n, .slice Ax x.val.length kx]) (sp := []) rfl rfl (by decide)) (Pl.one rfl) (fun p hp => by rw [List.mem_singleton.1 hp]; rfl) (by omega) (by omega) (by decide)<|fun w3 g2 cap2 sp2 H3 hG2=>Xa rfl<|Xr e28<|run_nil (blk_normal ?_)
 refine J2<|Xm rfl<|OV (ex_add rfl rfl (IntWalk.i64_in _ (by omega)))<|Xa rfl<|Xr e28<|run_nil (rnd_normal ?_)
 exact ⟨l.length - (i + 1), by omega, i + 1, _, g2, cap2, _, sp2, rfl, (fs (fs (fn (fn (fn (fs (fs (fn (fn (fn (fn (fn (fn (fn (fn (fn (fn (fn (fn (fn (fn (fn (fn (fn (fn (fn (fn (fn f0)))))))))))))))))))))))))))), by omega, by omega, by rw [hqs, tf_t hp1 hf1], hG2, H3.pick [0] (by decide)⟩
 have hf1 : (!vtLe n [.int .i64 x.slot, .int .i64 x.b.r, .int .i64 x.b.n, .slice Ax x.val.length kx]) = false := by show (!decide (x.slot ≤ n)) = false; rw [decide_eq_true (by omega)]; rfl
 refine Xr e28<|J4 rfl<|J6<|run_nil (blk_normal ?_)
 refine J2<|Xm rfl<|OV (ex_add rfl rfl (IntWalk.i64_in _ (by omega)))<|Xa rfl<|Xr e28<|run_nil (rnd_normal ?_)
 exact ⟨l.length - (i + 1), by omega, i + 1, _, g, cap, qs, sp, rfl, (fs (fs (fn (fn (fn (fs (fs (fn (fn (fn (fn (fn (fn (fn (fn (fn (fn (fn (fn (fn (fn (fn (fn (fn (fn (fn (fn (fn f0)))))))))))))))))))))))))))), by omega, by omega, by rw [hqs, tf_f hp1 hf1], hG, H1.pick [0] (by decide)⟩
 obtain rfl : i = l.length := by omega
 rw [← hlen, List.take_length] at hqs
 subst hqs
 refine Xr e28<|J4 rfl<|J8<|rnd_exit<|blk_exit<|Rq<|Xm rfl<|Xa rfl<|Xr e28<|J5<|FN1 rfl rfl<|⟨g, cap, sp, rfl, hG, H1.pick [0] (by decide)⟩
set_option maxRecDepth 100000 in
set_option maxHeartbeats 16000000 in
theorem vote_r (A : Option Addr) (k : Nat) (ps : List (List Value)) (l : List Vt) (v : Vt) (C : Option Addr) (kc : Nat) (ok : Nat → Prop) (w0 : World) (hp : Pl 4 ps) (hr : Rd w0 A l.length 4 ps.flatten) (h2 : All2 (VtR w0 ok) ps l) (hn : l.length ≤ 1000000000000) : Does Tryz.prog 44 #[.slice A l.length k, .agg [.int .i64 v.slot, .int .i64 v.b.r, .int .i64 v.b.n, .slice C v.val.length kc].toArray] w0 (fun r w' => ∃ g cap sp, r = .slice (hd g) (ps.filter (vtLt v.slot) ++ ([[.int .i64 v.slot, .int .i64 v.b.r, .int .i64 v.b.n, .slice C v.val.length kc]] : List (List Value)) ++ ps.filter fun p => !vtLe v.slot p).length cap ∧ Gw 4 g cap (ps.filter (vtLt v.slot) ++ ([[.int .i64 v.slot, .int .i64 v.b.r, .int .i64 v.b.n, .slice C v.val.length kc]] : List (List Value)) ++ ps.filter fun p => !vtLe v.slot p) sp ∧ Hp w0 w' [] [((g, 39, (ps.filter (vtLt v.slot) ++ ([[.int .i64 v.slot, .int .i64 v.b.r, .int .i64 v.b.n, .slice C v.val.length kc]] : List (List Value)) ++ ps.filter fun p => !vtLe v.slot p).flatten ++ sp) : Ent)]) := by
 refine does_of Tryz.func44 Tryz.ntmps44 rfl<|cR e37 ?_
 have H := Hp.refl w0
 have hlen := h2.len
 have hon := h2.ones fun _ _ h => h.ones
 refine Rq<|ops_box rfl rfl H<|fun w1 gv H1 _=>Xa rfl<|Xr e37<|Rq<|Xa rfl<|Xr e37<|J1<|Rq<|Xa rfl<|Xr e37<|J7<|run_loop (fun nQ lQ w => ∃ (i : Nat) (y : Int) (g : Option Nat) (cap : Nat) (qs : List (List Value)) (sp : List Value), l.length - i = nQ ∧ Fits [some (.slice A l.length k), none, none, some (.pointer (some ⟨gv, 0, none⟩)), none, some (.slice (hd g) qs.length cap), some (.int .i64 y), none, none, none, none, none, none, none, none, none, none, none, none, none, none, none, none, none, none, none, none, none, none, none, none, none, none, none, none, none, none] lQ ∧ y = (i : Int) ∧ i ≤ l.length ∧ qs = (ps.take i).filter (vtLt v.slot) ∧ Gw 4 g cap qs sp ∧ Hp w0 w [] [((some gv, 39, [.int .i64 v.slot, .int .i64 v.b.r, .int .i64 v.b.n, .slice C v.val.length kc]) : Ent), ((g, 39, qs.flatten ++ sp) : Ent)]) (l.length) ?_ ?_
 exact ⟨0, _, none, 0, [], [], rfl, (fs (fn (fn (fs (fn (fs (fs (fn (fn (fn (fn (fn (fn (fn (fn (fn (fn (fn (fn (fn (fn (fn (fn (fn (fn (fn (fn (fn (fn (fn (fn (fn (fn (fn (fn (fn (fn f0))))))))))))))))))))))))))))))))))))), rfl, Nat.zero_le _, rfl, Gw.nil 4, H1.nil 39⟩
 rintro nQ lQ w2 ⟨i, y, g, cap, qs, sp, rfl, hfit, rfl, hi, hqs, hG, H2⟩
 obtain ⟨j, rfl⟩ := hfit.open
 refine cR e37 ?_
 clear hfit
 refine J1<|Rq<|Xm rfl<|Xm rfl<|OV (ES Tryz.underlying54 rfl)<|OT (ex_lss rfl rfl) (fun hp10 => ?_) (fun hp10 => ?_)
 have hil : i < l.length := by omega
 obtain ⟨x, hx⟩ := get_of hil
 obtain ⟨p1, hp1, hR⟩ := h2.get hx
 obtain ⟨Ax, kx, rfl, hbx⟩ := hR
 obtain ⟨a1, ha1⟩ := hr.some_ (by omega)
 subst ha1
 have hql : qs.length ≤ i := by rw [hqs]; exact tf_len
 refine Xr e37<|J3 rfl<|J6<|J1<|J7<|J1<|run_still mixed (by kernel_rfl) ?_
 rintro w3 hw3
 have H3 := Hp.drew H2; rw [← hw3] at H3
 refine SV (ex_move rfl)<|SV (ex_move rfl)<|SV (EI Tryz.underlying54 ty39 rfl rfl rfl hil rfl)<|SV (ex_fieldAddrA fl39_0 rfl)<|cStl e37<|SV (EL ty3 rfl (((hr.to0 H3).elem hp hp1) 0 _ rfl))<|SV (EF fl39_0 rfl)<|SV (EL ty3 rfl (H3.cell (i := 0) rfl rfl))<|still_test (ex_lss rfl rfl) (fun hp20 => ?_) (fun hp20 => ?_)
 have hf1 : vtLt v.slot [.int .i64 x.slot, .int .i64 x.b.r, .int .i64 x.b.n, .slice Ax x.val.length kx] = true := decide_eq_true hp20
 refine still_nil<|cR e37<|J3 rfl<|J2<|Xm rfl<|Xm rfl<|Xm rfl<|OV (EI Tryz.underlying54 ty39 rfl rfl rfl hil rfl)<|cOp e37<|OV (EN ty39 rfl (vs := [.int .i64 x.slot, .int .i64 x.b.r, .int .i64 x.b.n, .slice Ax x.val.length kx]) rfl ((hr.to0 H3).elem hp hp1))<|ops_buildSlice Tryz.underlying54 ty39 H3 (cs := [.int .i64 x.slot, .int .i64 x.b.r, .int .i64 x.b.n, .slice Ax x.val.length kx]) rfl (by decide) rfl<|fun w4 gk H4 _=>ops_grow Tryz.underlying54 ty39 (by decide) H4 1 hG rfl rfl (rs := [[.int .i64 x.slot, .int .i64 x.b.r, .int .i64 x.b.n, .slice Ax x.val.length kx]]) (m := 1) rfl rfl (H4.rd (i := 2) (o := some _) (xs := [.int .i64 x.slot, .int .i64 x.b.r, .int .i64 x.b.n, .slice Ax x.val.length kx]) (sp := []) rfl rfl (by decide)) (Pl.one rfl) (fun p hp => by rw [List.mem_singleton.1 hp]; rfl) (by omega) (by omega) (by decide)<|fun w5 g2 cap2 sp2 H5 hG2=>Xa rfl<|Xr e37<|run_nil (blk_normal ?_)
 refine J2<|Xm rfl<|OV (ex_add rfl rfl (IntWalk.i64_in _ (by omega)))<|Xa rfl<|Xr e37<|run_nil (rnd_normal ?_)
 exact ⟨l.length - (i + 1), by omega, i + 1, _, g2, cap2, _, sp2, rfl, (fs (fn (fn (fs (fn (fs (fs (fn (fn (fn (fn (fn (fn (fn (fn (fn (fn (fn (fn (fn (fn (fn (fn (fn (fn (fn (fn (fn (fn (fn (fn (fn (fn (fn (fn (fn (fn f0))))))))))))))))))))))))))))))))))))), by omega, by omega, by rw [hqs, tf_t hp1 hf1], hG2, H5.pick [0, 1] (by decide)⟩
 have hf1 : vtLt v.slot [.int .i64 x.slot, .int .i64 x.b.r, .int .i64 x.b.n, .slice Ax x.val.length kx] = false := decide_eq_false hp20
 refine still_nil<|cR e37<|J4 rfl<|J6<|run_nil (blk_normal ?_)
 refine J2<|Xm rfl<|OV (ex_add rfl rfl (IntWalk.i64_in _ (by omega)))<|Xa rfl<|Xr e37<|run_nil (rnd_normal ?_)
 exact ⟨l.length - (i + 1), by omega, i + 1, _, g, cap, qs, sp, rfl, (fs (fn (fn (fs (fn (fs (fs (fn (fn (fn (fn (fn (fn (fn (fn (fn (fn (fn (fn (fn (fn (fn (fn (fn (fn (fn (fn (fn (fn (fn (fn (fn (fn (fn (fn (fn (fn f0))))))))))))))))))))))))))))))))))))), by omega, by omega, by rw [hqs, tf_f hp1 hf1], hG, H3.pick [0, 1] (by decide)⟩
 obtain rfl : i = l.length := by omega
 rw [← hlen, List.take_length] at hqs
 have hql : qs.length ≤ l.length := by rw [hqs, ← hlen]; exact List.length_filter_le _ _
 have hbl : (ps.filter fun p => !vtLe v.slot p).length ≤ l.length := by rw [← hlen]; exact List.length_filter_le _ _
 refine Xr e37<|J4 rfl<|J8<|rnd_exit<|blk_exit<|J1<|run_mixT 9 (.p 0 (.p 1 (.p 4 (.p 5 (.p 6 (.o 2 (.o 3 (.o 7 (.o 8 (.o 9 .nil)))))))))) H2 [0] mixed (by decide) (by kernel_rfl) ?_
 rintro w3 hw3
 have H3 := Hp.drew H2; rw [← hw3] at H3
 refine Tm rfl rfl<|TP rfl<|MV (fun wz hz => EN ty39 rfl (vs := [.int .i64 v.slot, .int .i64 v.b.r, .int .i64 v.b.n, .slice C v.val.length kc]) rfl (hz.cellsR (i := 0) rfl rfl))<|Tm rfl rfl<|Tf rfl fl39_0 rfl<|cT e37<|TP rfl<|MV (fun wz hz => EL ty3 rfl (hz.cell (i := 0) rfl rfl))<|TQ rfl<|ops_buildSlice Tryz.underlying54 ty39 H3 (cs := [.int .i64 v.slot, .int .i64 v.b.r, .int .i64 v.b.n, .slice C v.val.length kc]) rfl (by decide) rfl<|fun w4 gk H4 _=>OE<|⟨fun hne => H4.pick [0] (by decide), ?_⟩
 refine cT e37<|TQ rfl<|ops_grow Tryz.underlying54 ty39 (by decide) H4 1 hG rfl rfl (rs := [[.int .i64 v.slot, .int .i64 v.b.r, .int .i64 v.b.n, .slice C v.val.length kc]]) (m := 1) rfl rfl (H4.rd (i := 2) (o := some _) (xs := [.int .i64 v.slot, .int .i64 v.b.r, .int .i64 v.b.n, .slice C v.val.length kc]) (sp := []) rfl rfl (by decide)) (Pl.one rfl) (fun p hp => by rw [List.mem_singleton.1 hp]; rfl) (by omega) (by omega) (by decide)<|fun w5 g4 cap4 sp4 H5 hG4=>OE<|⟨fun hne => H5.pick [0] (by decide), ?_⟩
 refine cT e37<|TQ rfl<|OQ (EC gf45 rfl) (behind_r A k ps l v.slot ok _ hp (hr.to0 H5) (h2.imp fun p x h => h.to H5 k0) hn) ?_
 rintro _ w6 ⟨g3, cap3, sp3, rfl, hG3, Hc⟩
 have H6 := H5.call0 Hc
 refine OE ?_
 refine ⟨fun hne => H6.pick [0] (by decide), ?_⟩
 refine cT e37<|TQ rfl<|ops_grow Tryz.underlying54 ty39 (by decide) H6 1 hG4 rfl rfl (rs := (ps.filter fun p => !vtLe v.slot p))  rfl rfl (H6.rd (i := 3) (xs := (ps.filter fun p => !vtLe v.slot p).flatten) (sp := sp3) rfl hG3.2.2.2.len (by decide)) hG3.2.2.2 (fun p hp => hon p (List.mem_filter.1 hp).1) (by simp only [List.length_append, List.length_cons, List.length_nil]; omega) (by simp only [List.length_append, List.length_cons, List.length_nil]; omega) (by decide)<|fun w7 g5 cap5 sp5 H7 hG5=>OE<|⟨fun hne => H7.pick [0] (by decide), ?_⟩
 refine cT e37<|TQ rfl<|Xa rfl<|OE<|⟨fun hne => absurd rfl hne, ?_⟩
 refine cT e37<|mixt_nil<|cR e37<|J5<|FN1 rfl rfl ?_
 subst hqs
 exact ⟨g5, cap5, sp5, rfl, hG5, H7.pick [1] (by decide)⟩
end Go.Proofs.YtbninklfoogmdaaGreat
/- Walks of layer 2, printed by wip/gen/codec.py. -/
namespace Go.Proofs.YtbninklfoogmdaaGreat
open Go Go.RowKit
set_option linter.unusedVariables false
attribute [local irreducible] Still Ops Does Cd
set_option maxRecDepth 100000 in
set_option maxHeartbeats 32000000 in
theorem goes_r (s : Sv) (A1 : Option Addr) (k1 : Nat) (A2 : Option Addr) (k2 : Nat) (A3 : Option Addr) (k3 : Nat) (n : Nt) (B1 : Option Addr) (j1 : Nat) (B2 : Option Addr) (j2 : Nat) (ok : Nat → Prop) (w0 : World) (hv1 : Sl (VtR w0 ok) 4 w0 ok A1 s.votes) (hv2 : Bs w0 ok A2 s.image) (hv3 : Sl (EnR w0 ok) 2 w0 ok A3 s.entries) (hbv : Bs w0 ok B1 n.vote.val) (hbe : Bs w0 ok B2 n.entry.val) (hk : 1 ≤ n.kind ∧ n.kind ≤ 4) (hi : 0 ≤ s.index ∧ s.index ≤ 1099511627776) (he : s.entries.length ≤ 1099511627776) (hvl : s.votes.length ≤ 1000) (hes : ∀ x ∈ s.entries, x.slot ≤ 1099511627776) : Does Tryz.prog 25 #[.agg [.int .i64 s.p.r, .int .i64 s.p.n, .slice A1 s.votes.length k1, .int .i64 s.index, .slice A2 s.image.length k2, .slice A3 s.entries.length k3].toArray, .agg [.int .i64 n.kind, .int .i64 n.group, .int .i64 n.b.r, .int .i64 n.b.n, .int .i64 n.vote.slot, .int .i64 n.vote.b.r, .int .i64 n.vote.b.n, .slice B1 n.vote.val.length j1, .int .i64 n.entry.slot, .slice B2 n.entry.val.length j2, .int .i64 n.right.g, strV n.right.key, .int .i64 n.right.lease, .int .i64 n.right.net, .int .i64 n.client, .int .i64 n.seq].toArray] w0 (fun r w' => ∃ cs', r = .agg cs'.toArray ∧ SvR w' (up ok w0.heap.size) cs' (s.goes n) ∧ Hp w0 w' [] []) := by
 refine does_of Tryz.func25 Tryz.ntmps25 rfl<|cR e122 ?_
 have H := Hp.refl w0
 obtain ⟨pv, hpv, hrv, _, hav2⟩ := id hv1
 obtain ⟨pe, hpe, hre, _, he2⟩ := id hv3
 have hvl2 := hav2.len
 have hel := he2.len
 have hone := he2.ones fun _ _ h => h.ones
 refine Rq<|ops_box rfl rfl H<|fun w1 gs H1 _=>ops_box rfl rfl H1<|fun w2 gn H2 _=>OA ty57 H2<|fun w3 gr H3 _=>Xr e122<|J1<|Rq<|Xf fl45_0 rfl<|OV (EL ty3 rfl (H3.cell (i := 1) rfl rfl))<|Xr e122<|J7<|Rq<|OT (ex_eql rfl rfl) (fun hp10 => ?_) (fun hp10 => ?_)
 refine Xa rfl<|Xr e122<|J3 rfl<|J2<|Xf fl45_2 rfl<|OV (EN ty36 rfl (vs := [.int .i64 n.b.r, .int .i64 n.b.n]) rfl (H3.cellsR (i := 1) rfl rfl))<|OQ (EC gf42 rfl) (raise_r gs s.p n.b _ _ _ _ _ (H3.at (i := 0) rfl)) ?_
 rintro _ w4 Hd
 have H4 := (H3.callr [0] rfl Hd).pick [3, 1, 2] (by decide)
 refine Xr e122<|run_nil (blk_normal ?_)
 refine Rq<|OV (EN ty57 rfl (vs := [.int .i64 (rz s.p n.b).r, .int .i64 (rz s.p n.b).n, .slice A1 s.votes.length k1, .int .i64 s.index, .slice A2 s.image.length k2, .slice A3 s.entries.length k3]) rfl (H4.cellsR (i := 0) rfl rfl))<|OS ty57 H4 2 rfl rfl rfl rfl rfl (by first | decide | (simp; done) | simp [putAt]) rfl<|fun w5 H5=>Xr e122<|J5<|fin_cell rfl ty57 (cs := [.int .i64 (rz s.p n.b).r, .int .i64 (rz s.p n.b).n, .slice A1 s.votes.length k1, .int .i64 s.index, .slice A2 s.image.length k2, .slice A3 s.entries.length k3]) rfl rfl (H5.cellsR (i := 2) rfl rfl)<|⟨_, rfl, ?_, H5.noRows⟩
 rw [goes1 hp10, raise_eq]
 exact ⟨A1, k1, A2, k2, A3, k3, rfl, hv1.toV H5 up_k0, hv2.to H5 up_k0, hv3.toE H5 up_k0⟩
 refine Xa rfl<|Xr e122<|J4 rfl<|Rq<|OT (ex_eql rfl rfl) (fun hp15 => ?_) (fun hp15 => ?_)
 refine Xa rfl<|Xr e122<|J3 rfl<|J1<|run_mixZ 5 [(true, 0), (true, 1), (true, 2), (true, 3), (false, 4), (false, 5)] H3 [0, 1, 2] mixed (by decide) (by kernel_rfl) ?_
 rintro w4 hw4
 have H4 := Hp.drew H3; rw [← hw4] at H4
 refine Zf rfl fl45_3 rfl<|Zf rfl fl39_0 rfl<|MP rfl<|MV (fun wz hz => EL ty3 rfl (hz.cell (i := 1) rfl rfl))<|MP rfl<|MV (fun wz hz => EN ty57 rfl (vs := [.int .i64 s.p.r, .int .i64 s.p.n, .slice A1 s.votes.length k1, .int .i64 s.index, .slice A2 s.image.length k2, .slice A3 s.entries.length k3]) rfl (hz.cellsR (i := 0) rfl rfl))<|cZ e122<|MO rfl<|OC (EC gf43 rfl) (last_r s A1 k1 A2 k2 A3 k3 _ ⟨by omega, by omega⟩ (by omega))<|fun w5 Hd=>have H5:=H4.callN Hd;OE<|⟨fun hne => H5.pick [0, 1, 2] (by decide), ?_⟩
 refine cZ e122<|MO rfl<|OT (ex_gtr rfl rfl) (fun hp21 => ?_) (fun hp21 => ?_)
 refine OE ?_
 refine ⟨fun hne => absurd rfl hne, ?_⟩
 refine ME<|cR e122<|J3 rfl<|Rq<|Xf fl57_1 rfl<|OV (EL ty54 rfl (H5.cell (i := 0) rfl rfl))<|Xf fl45_3 rfl<|OV (EN ty39 rfl (vs := [.int .i64 n.vote.slot, .int .i64 n.vote.b.r, .int .i64 n.vote.b.n, .slice B1 n.vote.val.length j1]) rfl (H5.cellsR (i := 1) rfl rfl))<|cOp e122<|OQ (EC gf44 rfl) (vote_r A1 k1 pv s.votes n.vote B1 j1 ok _ hpv (hrv.to0 H5) (hav2.imp fun p x h => h.to H5 k0) (by omega)) ?_
 rintro _ w6 ⟨g4, cap4, sp4, rfl, hG4, Hc⟩
 have H6 := H5.call0 Hc
 have hVL : (pv.filter (vtLt n.vote.slot) ++ ([[.int .i64 n.vote.slot, .int .i64 n.vote.b.r, .int .i64 n.vote.b.n, .slice B1 n.vote.val.length j1]] : List (List Value)) ++ pv.filter fun p => !vtLe n.vote.slot p).length = (putVt s.votes n.vote).length := (putVt_rows hav2 ⟨B1, j1, rfl, hbv⟩).len
 rw [hVL]
 refine Xf fl57_1 rfl<|OW ty54 H6 0 rfl rfl rfl rfl (by first | (simp; done) | simp [putAt]) rfl<|fun w7 H7=>Xr e122<|J2<|Xf fl45_3 rfl<|Xf fl39_1 rfl<|OV (EN ty36 rfl (vs := [.int .i64 n.vote.b.r, .int .i64 n.vote.b.n]) rfl (H7.cellsR (i := 1) rfl rfl))<|OQ (EC gf42 rfl) (raise_r gs s.p n.vote.b _ _ _ _ _ (H7.at (i := 0) rfl)) ?_
 rintro _ w8 Hd
 have H8 := (H7.callr [0] rfl Hd).pick [4, 1, 2, 3] (by decide)
 refine Xr e122<|run_nil (blk_normal ?_)
 refine Rq<|OV (EN ty57 rfl (vs := [.int .i64 (rz s.p n.vote.b).r, .int .i64 (rz s.p n.vote.b).n, .slice (hd g4) (putVt s.votes n.vote).length cap4, .int .i64 s.index, .slice A2 s.image.length k2, .slice A3 s.entries.length k3]) rfl (H8.cellsR (i := 0) rfl rfl))<|OS ty57 H8 2 rfl rfl rfl rfl rfl (by first | decide | (simp; done) | simp [putAt]) rfl<|fun w9 H9=>Xr e122<|J5<|fin_cell rfl ty57 (cs := [.int .i64 (rz s.p n.vote.b).r, .int .i64 (rz s.p n.vote.b).n, .slice (hd g4) (putVt s.votes n.vote).length cap4, .int .i64 s.index, .slice A2 s.image.length k2, .slice A3 s.entries.length k3]) rfl rfl (H9.cellsR (i := 2) rfl rfl)<|⟨_, rfl, ?_, H9.noRows⟩
 rw [goes2 hp15, if_neg (by unfold Sv.last; omega), raise_eq]
 exact ⟨hd g4, cap4, A2, k2, A3, k3, rfl, Sl.row H9 (i := 3) rfl hG4.2.2.2 (by decide) (putVt_rows (hav2.imp fun p x h => h.to H9 up_k0) ⟨B1, j1, rfl, hbv.to H9 up_k0⟩) (row_new H9 (i := 3) rfl (fun _ h => by cases h)), hv2.to H9 up_k0, hv3.toE H9 up_k0⟩
 refine OE ?_
 refine ⟨fun hne => absurd rfl hne, ?_⟩
 refine ME<|cR e122<|J4 rfl<|J6<|run_nil (blk_normal ?_)
 refine Rq<|OV (EN ty57 rfl (vs := [.int .i64 s.p.r, .int .i64 s.p.n, .slice A1 s.votes.length k1, .int .i64 s.index, .slice A2 s.image.length k2, .slice A3 s.entries.length k3]) rfl (H5.cellsR (i := 0) rfl rfl))<|OS ty57 H5 2 rfl rfl rfl rfl rfl (by first | decide | (simp; done) | simp [putAt]) rfl<|fun w6 H6=>Xr e122<|J5<|fin_cell rfl ty57 (cs := [.int .i64 s.p.r, .int .i64 s.p.n, .slice A1 s.votes.length k1, .int .i64 s.index, .slice A2 s.image.length k2, .slice A3 s.entries.length k3]) rfl rfl (H6.cellsR (i := 2) rfl rfl)<|⟨_, rfl, ?_, H6.noRows⟩
 rw [goes2 hp15, if_pos (by unfold Sv.last; omega)]
 exact ⟨A1, k1, A2, k2, A3, k3, rfl, hv1.toV H6 up_k0, hv2.to H6 up_k0, hv3.toE H6 up_k0⟩
 refine Xa rfl<|Xr e122<|J4 rfl<|Rq<|OT (ex_eql rfl rfl) (fun hp33 => ?_) (fun hp33 => ?_)
 refine Xa rfl<|Xr e122<|J3 rfl<|J1<|run_mixZ 6 [(true, 0), (true, 1), (true, 2), (true, 3), (false, 4), (true, 5), (false, 6)] H3 [0, 1, 2] mixed (by decide) (by kernel_rfl) ?_
 rintro w4 hw4
 have H4 := Hp.drew H3; rw [← hw4] at H4
 refine Zf rfl fl45_4 rfl<|Zf rfl fl41_0 rfl<|MP rfl<|MV (fun wz hz => EL ty3 rfl (hz.cell (i := 1) rfl rfl))<|MP rfl<|MV (fun wz hz => EN ty57 rfl (vs := [.int .i64 s.p.r, .int .i64 s.p.n, .slice A1 s.votes.length k1, .int .i64 s.index, .slice A2 s.image.length k2, .slice A3 s.entries.length k3]) rfl (hz.cellsR (i := 0) rfl rfl))<|cZ e122<|MO rfl<|OC (EC gf43 rfl) (last_r s A1 k1 A2 k2 A3 k3 _ ⟨by omega, by omega⟩ (by omega))<|fun w5 Hd=>have H5:=H4.callN Hd;OE<|⟨fun hne => H5.pick [0, 1, 2] (by decide), ?_⟩
 refine cZ e122<|MP rfl<|MV (fun wz hz => ex_add rfl rfl (IntWalk.i64_in _ (by omega)))<|MO rfl<|OT (ex_eql rfl rfl) (fun hp40 => ?_) (fun hp40 => ?_)
 refine OE ?_
 refine ⟨fun hne => absurd rfl hne, ?_⟩
 refine ME<|cR e122<|J3 rfl<|J1<|run_mixT 8 (.p 0 (.p 1 (.p 3 (.p 4 (.two 2 (.o 5 (.o 6 (.p 7 (.o 8 .nil)))) 5 (.o 2 (.o 6 (.p 7 (.o 8 .nil))))))))) H5 [0, 1, 2] mixed (by decide) (by kernel_rfl) ?_
 rintro w6 hw6
 have H6 := Hp.drew H5; rw [← hw6] at H6
 refine Tf rfl fl57_4 rfl<|TP rfl<|MV (fun wz hz => EL ty55 rfl (hz.cell (i := 0) rfl rfl))<|Tf rfl fl45_4 rfl<|TP rfl<|MV (fun wz hz => EN ty41 rfl (vs := [.int .i64 n.entry.slot, .slice B2 n.entry.val.length j2]) rfl (hz.cellsR (i := 1) rfl rfl))<|cT e122<|mixt_two ?_ ?_
 refine TQ rfl<|ops_grow Tryz.underlying55 ty41 (by decide) (H6.nil 41) 3 (Gw.nil 2) rfl rfl (rs := pe)  (m := s.entries.length) hel rfl (hre.to0 H6) hpe hone (by rw [List.length_nil]; omega) (by rw [List.length_nil]; omega) (by decide)<|fun w7 g2 cap2 sp2 H7 hG2=>OE<|⟨fun hne => H7.pick [0, 1, 2] (by decide), ?_⟩
 refine cT e122<|TQ rfl<|ops_buildSlice Tryz.underlying55 ty41 H7 (cs := [.int .i64 n.entry.slot, .slice B2 n.entry.val.length j2]) rfl (by decide) rfl<|fun w8 gk H8 _=>OE<|⟨fun hne => H8.pick [0, 1, 2] (by decide), ?_⟩
 refine cT e122<|TQ rfl<|ops_grow Tryz.underlying55 ty41 (by decide) H8 3 (show Gw 2 g2 cap2 pe sp2 from hG2) rfl rfl (rs := [[.int .i64 n.entry.slot, .slice B2 n.entry.val.length j2]]) (m := 1) rfl rfl (H8.rd (i := 4) (o := some _) (xs := [.int .i64 n.entry.slot, .slice B2 n.entry.val.length j2]) (sp := []) rfl rfl (by decide)) (Pl.one rfl) (fun p hp => by rw [List.mem_singleton.1 hp]; rfl) (by omega) (by omega) (by decide)<|fun w9 g4 cap4 sp4 H9 hG4=>?_
 have hEL : (pe ++ ([[.int .i64 n.entry.slot, .slice B2 n.entry.val.length j2]] : List (List Value))).length = (s.entries ++ [n.entry]).length := by rw [List.length_append, List.length_append, hel]; rfl
 rw [hEL]
 refine OE ?_
 refine ⟨fun hne => H9.pick [0, 1, 2] (by decide), ?_⟩
 refine cT e122<|Tf rfl fl57_4 rfl<|TQ rfl<|OW ty55 H9 0 rfl rfl rfl rfl (by first | decide | (simp; done) | simp [putAt]) rfl<|fun w10 H10=>OE<|⟨fun hne => absurd rfl hne, ?_⟩
 refine cT e122<|mixt_nil<|cR e122<|J2<|Xf fl57_1 rfl<|OV (EL ty54 rfl (H10.cell (i := 0) rfl rfl))<|Xf fl45_4 rfl<|Xf fl41_0 rfl<|cOp e122<|OV (EL ty3 rfl (H10.cell (i := 1) rfl rfl))<|OQ (EC gf45 rfl) (behind_r A1 k1 pv s.votes n.entry.slot ok _ hpv (hrv.to0 H10) (hav2.imp fun p x h => h.to H10 k0) (by omega)) ?_
 rintro _ w11 ⟨g3, cap3, sp3, rfl, hG3, Hc⟩
 have H11 := H10.call0 Hc
 have hBL : (pv.filter fun p => !vtLe n.entry.slot p).length = (behind s.votes n.entry.slot).length := (behind_rows hav2).len
 rw [hBL]
 refine Xf fl57_1 rfl<|OW ty54 H11 0 rfl rfl rfl rfl (by first | (simp; done) | simp [putAt]) rfl<|fun w12 H12=>Xr e122<|run_nil (blk_normal ?_)
 refine Rq<|OV (EN ty57 rfl (vs := [.int .i64 s.p.r, .int .i64 s.p.n, .slice (hd g3) (behind s.votes n.entry.slot).length cap3, .int .i64 s.index, .slice A2 s.image.length k2, .slice (hd g4) (s.entries ++ [n.entry]).length cap4]) rfl (H12.cellsR (i := 0) rfl rfl))<|OS ty57 H12 2 rfl rfl rfl rfl rfl (by first | decide | (simp; done) | simp [putAt]) rfl<|fun w13 H13=>Xr e122<|J5<|fin_cell rfl ty57 (cs := [.int .i64 s.p.r, .int .i64 s.p.n, .slice (hd g3) (behind s.votes n.entry.slot).length cap3, .int .i64 s.index, .slice A2 s.image.length k2, .slice (hd g4) (s.entries ++ [n.entry]).length cap4]) rfl rfl (H13.cellsR (i := 2) rfl rfl)<|⟨_, rfl, ?_, H13.noRows⟩
 rw [goes3 hp33, if_pos (by unfold Sv.last; omega)]
 exact ⟨hd g3, cap3, A2, k2, hd g4, cap4, rfl, Sl.row H13 (i := 5) rfl hG3.2.2.2 (by decide) (behind_rows (hav2.imp fun p x h => h.to H13 up_k0)) (row_new H13 (i := 5) rfl (fun _ h => by cases h)), hv2.to H13 up_k0, Sl.row H13 (i := 3) rfl hG4.2.2.2 (by decide) ((he2.imp fun p x h => h.to H13 up_k0).app (All2.one ⟨B2, j2, rfl, hbe.to H13 up_k0⟩)) (row_new H13 (i := 3) rfl (fun _ h => by cases h))⟩
 refine TQ rfl<|ops_buildSlice Tryz.underlying55 ty41 H6 (cs := [.int .i64 n.entry.slot, .slice B2 n.entry.val.length j2]) rfl (by decide) rfl<|fun w7 gk H7 _=>OE<|⟨fun hne => H7.pick [0, 1, 2] (by decide), ?_⟩
 refine cT e122<|TQ rfl<|ops_grow Tryz.underlying55 ty41 (by decide) (H7.nil 41) 4 (Gw.nil 2) rfl rfl (rs := pe)  (m := s.entries.length) hel rfl (hre.to0 H7) hpe hone (by rw [List.length_nil]; omega) (by rw [List.length_nil]; omega) (by decide)<|fun w8 g2 cap2 sp2 H8 hG2=>?_
 replace H8 := H8.pick [0, 1, 2, 4, 3] (by decide)
 refine OE ?_
 refine ⟨fun hne => H8.pick [0, 1, 2] (by decide), ?_⟩
 refine cT e122<|TQ rfl<|ops_grow Tryz.underlying55 ty41 (by decide) H8 3 (show Gw 2 g2 cap2 pe sp2 from hG2) rfl rfl (rs := [[.int .i64 n.entry.slot, .slice B2 n.entry.val.length j2]]) (m := 1) rfl rfl (H8.rd (i := 4) (o := some _) (xs := [.int .i64 n.entry.slot, .slice B2 n.entry.val.length j2]) (sp := []) rfl rfl (by decide)) (Pl.one rfl) (fun p hp => by rw [List.mem_singleton.1 hp]; rfl) (by omega) (by omega) (by decide)<|fun w9 g4 cap4 sp4 H9 hG4=>?_
 have hEL : (pe ++ ([[.int .i64 n.entry.slot, .slice B2 n.entry.val.length j2]] : List (List Value))).length = (s.entries ++ [n.entry]).length := by rw [List.length_append, List.length_append, hel]; rfl
 rw [hEL]
 refine OE ?_
 refine ⟨fun hne => H9.pick [0, 1, 2] (by decide), ?_⟩
 refine cT e122<|Tf rfl fl57_4 rfl<|TQ rfl<|OW ty55 H9 0 rfl rfl rfl rfl (by first | decide | (simp; done) | simp [putAt]) rfl<|fun w10 H10=>OE<|⟨fun hne => absurd rfl hne, ?_⟩
 refine cT e122<|mixt_nil<|cR e122<|J2<|Xf fl57_1 rfl<|OV (EL ty54 rfl (H10.cell (i := 0) rfl rfl))<|Xf fl45_4 rfl<|Xf fl41_0 rfl<|cOp e122<|OV (EL ty3 rfl (H10.cell (i := 1) rfl rfl))<|OQ (EC gf45 rfl) (behind_r A1 k1 pv s.votes n.entry.slot ok _ hpv (hrv.to0 H10) (hav2.imp fun p x h => h.to H10 k0) (by omega)) ?_
 rintro _ w11 ⟨g3, cap3, sp3, rfl, hG3, Hc⟩
 have H11 := H10.call0 Hc
 have hBL : (pv.filter fun p => !vtLe n.entry.slot p).length = (behind s.votes n.entry.slot).length := (behind_rows hav2).len
 rw [hBL]
 refine Xf fl57_1 rfl<|OW ty54 H11 0 rfl rfl rfl rfl (by first | (simp; done) | simp [putAt]) rfl<|fun w12 H12=>Xr e122<|run_nil (blk_normal ?_)
 refine Rq<|OV (EN ty57 rfl (vs := [.int .i64 s.p.r, .int .i64 s.p.n, .slice (hd g3) (behind s.votes n.entry.slot).length cap3, .int .i64 s.index, .slice A2 s.image.length k2, .slice (hd g4) (s.entries ++ [n.entry]).length cap4]) rfl (H12.cellsR (i := 0) rfl rfl))<|OS ty57 H12 2 rfl rfl rfl rfl rfl (by first | decide | (simp; done) | simp [putAt]) rfl<|fun w13 H13=>Xr e122<|J5<|fin_cell rfl ty57 (cs := [.int .i64 s.p.r, .int .i64 s.p.n, .slice (hd g3) (behind s.votes n.entry.slot).length cap3, .int .i64 s.index, .slice A2 s.image.length k2, .slice (hd g4) (s.entries ++ [n.entry]).length cap4]) rfl rfl (H13.cellsR (i := 2) rfl rfl)<|⟨_, rfl, ?_, H13.noRows⟩
 rw [goes3 hp33, if_pos (by unfold Sv.last; omega)]
 exact ⟨hd g3, cap3, A2, k2, hd g4, cap4, rfl, Sl.row H13 (i := 5) rfl hG3.2.2.2 (by decide) (behind_rows (hav2.imp fun p x h => h.to H13 up_k0)) (row_new H13 (i := 5) rfl (fun _ h => by cases h)), hv2.to H13 up_k0, Sl.row H13 (i := 3) rfl hG4.2.2.2 (by decide) ((he2.imp fun p x h => h.to H13 up_k0).app (All2.one ⟨B2, j2, rfl, hbe.to H13 up_k0⟩)) (row_new H13 (i := 3) rfl (fun _ h => by cases h))⟩
 refine OE ?_
 refine ⟨fun hne => absurd rfl hne, ?_⟩
 refine ME<|cR e122<|J4 rfl<|J6<|run_nil (blk_normal ?_)
 refine Rq<|OV (EN ty57 rfl (vs := [.int .i64 s.p.r, .int .i64 s.p.n, .slice A1 s.votes.length k1, .int .i64 s.index, .slice A2 s.image.length k2, .slice A3 s.entries.length k3]) rfl (H5.cellsR (i := 0) rfl rfl))<|OS ty57 H5 2 rfl rfl rfl rfl rfl (by first | decide | (simp; done) | simp [putAt]) rfl<|fun w6 H6=>Xr e122<|J5<|fin_cell rfl ty57 (cs := [.int .i64 s.p.r, .int .i64 s.p.n, .slice A1 s.votes.length k1, .int .i64 s.index, .slice A2 s.image.length k2, .slice A3 s.entries.length k3]) rfl rfl (H6.cellsR (i := 2) rfl rfl)<|⟨_, rfl, ?_, H6.noRows⟩
 rw [goes3 hp33, if_neg (by unfold Sv.last; omega)]
 exact ⟨A1, k1, A2, k2, A3, k3, rfl, hv1.toV H6 up_k0, hv2.to H6 up_k0, hv3.toE H6 up_k0⟩
 refine Xa rfl<|Xr e122<|J4 rfl<|Rq<|OT1 (ex_eql rfl rfl) (by omega)<|Xa rfl<|Xr e122<|J3 rfl<|J1<|Rq<|Xf fl45_4 rfl<|Xf fl41_0 rfl<|OV (EL ty3 rfl (H3.cell (i := 1) rfl rfl))<|Xf fl57_2 rfl<|cOp e122<|OV (EL ty3 rfl (H3.cell (i := 0) rfl rfl))<|OT (ex_leq rfl rfl) (fun hp63 => ?_) (fun hp63 => ?_)
 refine Xr e122<|J3 rfl<|Rq<|OV (EN ty57 rfl (vs := [.int .i64 s.p.r, .int .i64 s.p.n, .slice A1 s.votes.length k1, .int .i64 s.index, .slice A2 s.image.length k2, .slice A3 s.entries.length k3]) rfl (H3.cellsR (i := 0) rfl rfl))<|OS ty57 H3 2 rfl rfl rfl rfl rfl (by first | decide | (simp; done) | simp [putAt]) rfl<|fun w4 H4=>Xr e122<|J5<|BR<|fin_cell rfl ty57 (cs := [.int .i64 s.p.r, .int .i64 s.p.n, .slice A1 s.votes.length k1, .int .i64 s.index, .slice A2 s.image.length k2, .slice A3 s.entries.length k3]) rfl rfl (H4.cellsR (i := 2) rfl rfl)<|⟨_, rfl, ?_, H4.noRows⟩
 rw [goes4 (by omega), if_pos (by omega)]
 exact ⟨A1, k1, A2, k2, A3, k3, rfl, hv1.toV H4 up_k0, hv2.to H4 up_k0, hv3.toE H4 up_k0⟩
 refine Xr e122<|J4 rfl<|J6<|Rq<|Xa rfl<|Xr e122<|J1<|Rq<|Xa rfl<|Xr e122<|J7<|run_loop (fun nQ lQ w => ∃ (i : Nat) (y : Int) (g : Option Nat) (cap : Nat) (qs : List (List Value)) (sp : List Value), s.entries.length - i = nQ ∧ Fits [none, none, some (.pointer (some ⟨gs, 0, none⟩)), some (.pointer (some ⟨gn, 0, none⟩)), some (.pointer (some ⟨gr, 0, none⟩)), some (.slice (hd g) qs.length cap), some (.int .i64 y), none, none, none, none, none, none, none, none, none, none, none, none, none, none, none, none, none, none, none, none, none, none, none, none, none, none, none, none, none, none, none, none, none, none, none, none, none, none, none, none, none, none, none, none, none, none, none, none, none, none, none, none, none, none, none, none, none, none, none, none, none, none, none, none, none, none, none, none, none, none, none, none, none, none, none, none, none, none, none, none, none, none, none, none, none, none, none, none, none, none, none, none, none, none, none, none, none, none, none, none, none, none, none, none, none, none, none, none, none, none, none, none, none, none, none] lQ ∧ y = (i : Int) ∧ i ≤ s.entries.length ∧ qs = (pe.take i).filter (fun p => !vtLe n.entry.slot p) ∧ Gw 2 g cap qs sp ∧ Hp w0 w [] [((some gs, 57, [.int .i64 s.p.r, .int .i64 s.p.n, .slice A1 s.votes.length k1, .int .i64 s.index, .slice A2 s.image.length k2, .slice A3 s.entries.length k3]) : Ent), ((some gn, 45, [.int .i64 n.kind, .int .i64 n.group, .int .i64 n.b.r, .int .i64 n.b.n, .int .i64 n.vote.slot, .int .i64 n.vote.b.r, .int .i64 n.vote.b.n, .slice B1 n.vote.val.length j1, .int .i64 n.entry.slot, .slice B2 n.entry.val.length j2, .int .i64 n.right.g, strV n.right.key, .int .i64 n.right.lease, .int .i64 n.right.net, .int .i64 n.client, .int .i64 n.seq]) : Ent), ((some gr, 57, [.int .i64 0, .int .i64 0, .slice none 0 0, .int .i64 0, .slice none 0 0, .slice none 0 0]) : Ent), ((g, 41, qs.flatten ++ sp) : Ent)]) (s.entries.length) ?_ ?_
 exact ⟨0, _, none, 0, [], [], rfl, (fn (fn (fs (fs (fs (fs (fs (fn (fn (fn (fn (fn (fn (fn (fn (fn (fn (fn (fn (fn (fn (fn (fn (fn (fn (fn (fn (fn (fn (fn (fn (fn (fn (fn (fn (fn (fn (fn (fn (fn (fn (fn (fn (fn (fn (fn (fn (fn (fn (fn (fn (fn (fn (fn (fn (fn (fn (fn (fn (fn (fn (fn (fn (fn (fn (fn (fn (fn (fn (fn (fn (fn (fn (fn (fn (fn (fn (fn (fn (fn (fn (fn (fn (fn (fn (fn (fn (fn (fn (fn (fn (fn (fn (fn (fn (fn (fn (fn (fn (fn (fn (fn (fn (fn (fn (fn (fn (fn (fn (fn (fn (fn (fn (fn (fn (fn (fn (fn (fn (fn (fn (fn f0)))))))))))))))))))))))))))))))))))))))))))))))))))))))))))))))))))))))))))))))))))))))))))))))))))))))))))))))))))))))))), rfl, Nat.zero_le _, rfl, Gw.nil 2, H3.nil 41⟩
 rintro nQ lQ w4 ⟨i, y, g, cap, qs, sp, rfl, hfit, rfl, hi, hqs, hG, H4⟩
 obtain ⟨j, rfl⟩ := hfit.open
 refine cR e122 ?_
 clear hfit
 refine J1<|Rq<|Xm rfl<|Xf fl57_4 rfl<|OV (EL ty55 rfl (H4.cell (i := 0) rfl rfl))<|OV (ES Tryz.underlying55 rfl)<|cOp e122<|OT (ex_lss rfl rfl) (fun hp69 => ?_) (fun hp69 => ?_)
 have hil : i < s.entries.length := by omega
 obtain ⟨x, hx⟩ := get_of hil
 obtain ⟨p1, hp1, hR⟩ := he2.get hx
 obtain ⟨Ax, kx, rfl, hbx⟩ := hR
 obtain ⟨a1, ha1⟩ := hre.some_ (by omega)
 subst ha1
 have hql : qs.length ≤ i := by rw [hqs]; exact tf_len
 refine Xr e122<|J3 rfl<|J6<|J1<|J7<|J1<|run_still mixed (by kernel_rfl) ?_
 rintro w5 hw5
 have H5 := Hp.drew H4; rw [← hw5] at H5
 refine SV (EF fl57_4 rfl)<|SV (EL ty55 rfl (H5.cell (i := 0) rfl rfl))<|SV (ex_move rfl)<|SV (EI Tryz.underlying55 ty41 rfl rfl rfl hil rfl)<|cStl e122<|SV (ex_fieldAddrA fl41_0 rfl)<|SV (EL ty3 rfl (((hre.to0 H5).elem hpe hp1) 0 _ rfl))<|SV (EF fl45_4 rfl)<|SV (EF fl41_0 rfl)<|cStl e122<|SV (EL ty3 rfl (H5.cell (i := 1) rfl rfl))<|still_test (ex_gtr rfl rfl) (fun hp81 => ?_) (fun hp81 => ?_)
 have hf1 : (!vtLe n.entry.slot [.int .i64 x.slot, .slice Ax x.val.length kx]) = true := by show (!decide (x.slot ≤ n.entry.slot)) = true; rw [decide_eq_false (by omega)]; rfl
 refine still_nil<|cR e122<|J3 rfl<|J2<|Xm rfl<|Xf fl57_4 rfl<|OV (EL ty55 rfl (H5.cell (i := 0) rfl rfl))<|Xm rfl<|cOp e122<|OV (EI Tryz.underlying55 ty41 rfl rfl rfl hil rfl)<|OV (EN ty41 rfl (vs := [.int .i64 x.slot, .slice Ax x.val.length kx]) rfl ((hre.to0 H5).elem hpe hp1))<|ops_buildSlice Tryz.underlying55 ty41 H5 (cs := [.int .i64 x.slot, .slice Ax x.val.length kx]) rfl (by decide) rfl<|fun w6 gk H6 _=>ops_grow Tryz.underlying55 ty41 (by decide) H6 3 hG rfl rfl (rs := [[.int .i64 x.slot, .slice Ax x.val.length kx]]) (m := 1) rfl rfl (H6.rd (i := 4) (o := some _) (xs := [.int .i64 x.slot, .slice Ax x.val.length kx]) (sp := []) rfl rfl (by decide)) (Pl.one rfl) (fun p hp => by rw [List.mem_singleton.1 hp]; rfl) (by omega) (by omega) (by decide)<|fun w7 g2 cap2 sp2 H7 hG2=>cOp e122<|Xa rfl<|Xr e122<|run_nil (blk_normal ?_)
 refine J2<|Xm rfl<|OV (ex_add rfl rfl (IntWalk.i64_in _ (by omega)))<|Xa rfl<|Xr e122<|run_nil (rnd_normal ?_)
 exact ⟨s.entries.length - (i + 1), by omega, i + 1, _, g2, cap2, _, sp2, rfl, (fn (fn (fs (fs (fs (fs (fs (fn (fn (fn (fn (fn (fn (fn (fn (fn (fn (fn (fn (fn (fn (fn (fn (fn (fn (fn (fn (fn (fn (fn (fn (fn (fn (fn (fn (fn (fn (fn (fn (fn (fn (fn (fn (fn (fn (fn (fn (fn (fn (fn (fn (fn (fn (fn (fn (fn (fn (fn (fn (fn (fn (fn (fn (fn (fn (fn (fn (fn (fn (fn (fn (fn (fn (fn (fn (fn (fn (fn (fn (fn (fn (fn (fn (fn (fn (fn (fn (fn (fn (fn (fn (fn (fn (fn (fn (fn (fn (fn (fn (fn (fn (fn (fn (fn (fn (fn (fn (fn (fn (fn (fn (fn (fn (fn (fn (fn (fn (fn (fn (fn (fn (fn f0)))))))))))))))))))))))))))))))))))))))))))))))))))))))))))))))))))))))))))))))))))))))))))))))))))))))))))))))))))))))))), by omega, by omega, by rw [hqs, tf_t hp1 hf1], hG2, H7.pick [0, 1, 2, 3] (by decide)⟩
 have hf1 : (!vtLe n.entry.slot [.int .i64 x.slot, .slice Ax x.val.length kx]) = false := by show (!decide (x.slot ≤ n.entry.slot)) = false; rw [decide_eq_true (by omega)]; rfl
 refine still_nil<|cR e122<|J4 rfl<|J6<|run_nil (blk_normal ?_)
 refine J2<|Xm rfl<|OV (ex_add rfl rfl (IntWalk.i64_in _ (by omega)))<|Xa rfl<|Xr e122<|run_nil (rnd_normal ?_)
 exact ⟨s.entries.length - (i + 1), by omega, i + 1, _, g, cap, qs, sp, rfl, (fn (fn (fs (fs (fs (fs (fs (fn (fn (fn (fn (fn (fn (fn (fn (fn (fn (fn (fn (fn (fn (fn (fn (fn (fn (fn (fn (fn (fn (fn (fn (fn (fn (fn (fn (fn (fn (fn (fn (fn (fn (fn (fn (fn (fn (fn (fn (fn (fn (fn (fn (fn (fn (fn (fn (fn (fn (fn (fn (fn (fn (fn (fn (fn (fn (fn (fn (fn (fn (fn (fn (fn (fn (fn (fn (fn (fn (fn (fn (fn (fn (fn (fn (fn (fn (fn (fn (fn (fn (fn (fn (fn (fn (fn (fn (fn (fn (fn (fn (fn (fn (fn (fn (fn (fn (fn (fn (fn (fn (fn (fn (fn (fn (fn (fn (fn (fn (fn (fn (fn (fn (fn f0)))))))))))))))))))))))))))))))))))))))))))))))))))))))))))))))))))))))))))))))))))))))))))))))))))))))))))))))))))))))))), by omega, by omega, by rw [hqs, tf_f hp1 hf1], hG, H5.pick [0, 1, 2, 3] (by decide)⟩
 obtain rfl : i = s.entries.length := by omega
 rw [← hel, List.take_length] at hqs
 have hef := ents_rows (n := n.entry.slot) he2
 rw [← hqs] at hef
 have hefl := hef.len
 have HI := H4
 rw [hefl]
 refine Xr e122<|J4 rfl<|J8<|rnd_exit<|blk_exit<|J1<|J1<|run_still mixed (by kernel_rfl) ?_
 rintro w5 hw5
 have H5 := Hp.drew H4; rw [← hw5] at H5
 refine SV (ex_move rfl)<|SV (ES Tryz.underlying55 rfl)<|still_test (ex_gtr rfl rfl) (fun hp92 => ?_) (fun hp92 => ?_)
 obtain ⟨p0, hp0⟩ := get_of (l := qs) (j := 0) (by omega)
 obtain ⟨e0, he0, hR0⟩ := hef.getL hp0
 have hmem0 := (List.mem_filter.1 (List.mem_of_getElem? he0))
 have hsl0 := hes e0 hmem0.1
 have hgt0 : n.entry.slot < e0.slot := by simpa using hmem0.2
 obtain ⟨Aq, kq, hpq, _⟩ := hR0
 subst hpq
 have hc0 : (qs.flatten ++ sp)[0 + 0 * 2 + 0]? = some (.int .i64 e0.slot) := by
   have h1 := hG.2.2.2.get hp0 (j := 0) (u := .int .i64 e0.slot) rfl
   rw [List.getElem?_append_left (lt_of_get h1)]; exact h1
 obtain ⟨gx, rfl⟩ := own_some HI (i := 3) rfl (lt_of_get hc0)
 refine SV (ex_move rfl)<|cStl e122<|still_yes rfl<|SV (ex_move rfl)<|still_yes rfl<|SV (ex_idxN Tryz.underlying55 ty41 rfl rfl (i := 0) rfl (by omega))<|cStl e122<|still_yes rfl<|SV (EF fl41_0 rfl)<|still_yes rfl<|SV (EL ty3 rfl (H5.cell (i := 3) rfl hc0))<|cStl e122<|still_yes rfl<|SV (EF fl45_4 rfl)<|still_yes rfl<|SV (EF fl41_0 rfl)<|cStl e122<|still_yes rfl<|SV (EL ty3 rfl (H5.cell (i := 1) rfl rfl))<|still_yes rfl<|SV (ex_add rfl rfl (IntWalk.i64_in _ (by omega)))<|cStl e122<|still_yes rfl<|still_test (ex_neq rfl rfl) (fun hp102 => ?_) (fun hp102 => ?_)
 refine SV (ex_pick_t rfl rfl)<|still_nil<|cR e122<|J3 rfl<|J2<|Xa rfl<|Xr e122<|J1<|run_mixZ 12 [(true, 0), (true, 1), (true, 2), (true, 3), (true, 4), (true, 5), (true, 6), (true, 7), (false, 8), (true, 9), (false, 10), (true, 11), (false, 12)] H5 [1] mixed (by decide) (by kernel_rfl) ?_
 rintro w6 hw6
 have H6 := Hp.drew H5; rw [← hw6] at H6
 refine Zf rfl fl45_4 rfl<|Zf rfl fl41_0 rfl<|MP rfl<|MV (fun wz hz => EL ty3 rfl (hz.cell (i := 0) rfl rfl))<|Zf rfl fl45_4 rfl<|cZ e122<|Zf rfl fl41_1 rfl<|MP rfl<|MV (fun wz hz => EL ty37 rfl (hz.cell (i := 0) rfl rfl))<|Zm rfl rfl<|Zf rfl fl57_2 rfl<|cZ e122<|MO rfl<|OW ty3 H6 0 rfl rfl rfl rfl (by first | (simp; done) | simp [putAt]) rfl<|fun w7 H7=>OE<|⟨fun hne => H7.pick [1] (by decide), ?_⟩
 refine cZ e122<|Zf rfl fl57_3 rfl<|MO rfl<|OW ty37 H7 0 rfl rfl rfl rfl (by first | (simp; done) | simp [putAt]) rfl<|fun w8 H8=>OE<|⟨fun hne => H8.pick [1] (by decide), ?_⟩
 refine cZ e122<|Zf rfl fl57_4 rfl<|MO rfl<|OW ty55 H8 0 rfl rfl rfl rfl (by first | (simp; done) | simp [putAt]) rfl<|fun w9 H9=>OE<|⟨fun hne => absurd rfl hne, ?_⟩
 refine cZ e122<|ME<|cR e122<|J2<|Xf fl57_1 rfl<|OV (EL ty54 rfl (H9.cell (i := 0) rfl rfl))<|Xf fl45_4 rfl<|Xf fl41_0 rfl<|cOp e122<|OV (EL ty3 rfl (H9.cell (i := 1) rfl rfl))<|OQ (EC gf45 rfl) (behind_r A1 k1 pv s.votes n.entry.slot ok _ hpv (hrv.to0 H9) (hav2.imp fun p x h => h.to H9 k0) (by omega)) ?_
 rintro _ w10 ⟨g3, cap3, sp3, rfl, hG3, Hc⟩
 have H10 := H9.call0 Hc
 have hBL : (pv.filter fun p => !vtLe n.entry.slot p).length = (behind s.votes n.entry.slot).length := (behind_rows hav2).len
 rw [hBL]
 refine Xf fl57_1 rfl<|OW ty54 H10 0 rfl rfl rfl rfl (by first | (simp; done) | simp [putAt]) rfl<|fun w11 H11=>Xr e122<|run_nil (blk_normal ?_)
 refine Rq<|OV (EN ty57 rfl (vs := [.int .i64 s.p.r, .int .i64 s.p.n, .slice (hd g3) (behind s.votes n.entry.slot).length cap3, .int .i64 n.entry.slot, .slice B2 n.entry.val.length j2, .slice none 0 0]) rfl (H11.cellsR (i := 0) rfl rfl))<|OS ty57 H11 2 rfl rfl rfl rfl rfl (by first | decide | (simp; done) | simp [putAt]) rfl<|fun w12 H12=>Xr e122<|J5<|fin_cell rfl ty57 (cs := [.int .i64 s.p.r, .int .i64 s.p.n, .slice (hd g3) (behind s.votes n.entry.slot).length cap3, .int .i64 n.entry.slot, .slice B2 n.entry.val.length j2, .slice none 0 0]) rfl rfl (H12.cellsR (i := 2) rfl rfl) ?_
 have h0 : imgEn s.entries n.entry.slot = [] := by
   unfold imgEn
   cases hq : (s.entries.filter fun x => decide (n.entry.slot < x.slot)) with
   | nil => rfl
   | cons a r =>
     rw [hq] at he0
     cases he0
     exact if_neg hp102
 refine ⟨_, rfl, ?_, H12.noRows⟩
 rw [goes4 (by omega), if_neg (by omega), h0]
 exact ⟨hd g3, cap3, B2, j2, none, 0, rfl, Sl.row H12 (i := 4) rfl hG3.2.2.2 (by decide) (behind_rows (hav2.imp fun p x h => h.to H12 up_k0)) (row_new H12 (i := 4) rfl (fun _ h => by cases h)), hbe.to H12 up_k0, Sl.none _ _ _ _⟩
 refine SV (ex_pick_t rfl rfl)<|still_nil<|cR e122<|J4 rfl<|J6<|J1<|run_mixZ 12 [(true, 0), (true, 1), (true, 2), (true, 3), (true, 4), (true, 5), (true, 6), (true, 7), (false, 8), (true, 9), (false, 10), (true, 11), (false, 12)] H5 [1] mixed (by decide) (by kernel_rfl) ?_
 rintro w6 hw6
 have H6 := Hp.drew H5; rw [← hw6] at H6
 refine Zf rfl fl45_4 rfl<|Zf rfl fl41_0 rfl<|MP rfl<|MV (fun wz hz => EL ty3 rfl (hz.cell (i := 0) rfl rfl))<|Zf rfl fl45_4 rfl<|cZ e122<|Zf rfl fl41_1 rfl<|MP rfl<|MV (fun wz hz => EL ty37 rfl (hz.cell (i := 0) rfl rfl))<|Zm rfl rfl<|Zf rfl fl57_2 rfl<|cZ e122<|MO rfl<|OW ty3 H6 0 rfl rfl rfl rfl (by first | (simp; done) | simp [putAt]) rfl<|fun w7 H7=>OE<|⟨fun hne => H7.pick [1] (by decide), ?_⟩
 refine cZ e122<|Zf rfl fl57_3 rfl<|MO rfl<|OW ty37 H7 0 rfl rfl rfl rfl (by first | (simp; done) | simp [putAt]) rfl<|fun w8 H8=>OE<|⟨fun hne => H8.pick [1] (by decide), ?_⟩
 refine cZ e122<|Zf rfl fl57_4 rfl<|MO rfl<|OW ty55 H8 0 rfl rfl rfl rfl (by first | (simp; done) | simp [putAt]) rfl<|fun w9 H9=>OE<|⟨fun hne => absurd rfl hne, ?_⟩
 refine cZ e122<|ME<|cR e122<|J2<|Xf fl57_1 rfl<|OV (EL ty54 rfl (H9.cell (i := 0) rfl rfl))<|Xf fl45_4 rfl<|Xf fl41_0 rfl<|cOp e122<|OV (EL ty3 rfl (H9.cell (i := 1) rfl rfl))<|OQ (EC gf45 rfl) (behind_r A1 k1 pv s.votes n.entry.slot ok _ hpv (hrv.to0 H9) (hav2.imp fun p x h => h.to H9 k0) (by omega)) ?_
 rintro _ w10 ⟨g3, cap3, sp3, rfl, hG3, Hc⟩
 have H10 := H9.call0 Hc
 have hBL : (pv.filter fun p => !vtLe n.entry.slot p).length = (behind s.votes n.entry.slot).length := (behind_rows hav2).len
 rw [hBL]
 refine Xf fl57_1 rfl<|OW ty54 H10 0 rfl rfl rfl rfl (by first | (simp; done) | simp [putAt]) rfl<|fun w11 H11=>Xr e122<|run_nil (blk_normal ?_)
 refine Rq<|OV (EN ty57 rfl (vs := [.int .i64 s.p.r, .int .i64 s.p.n, .slice (hd g3) (behind s.votes n.entry.slot).length cap3, .int .i64 n.entry.slot, .slice B2 n.entry.val.length j2, .slice (hd (some gx)) (s.entries.filter fun x => decide (n.entry.slot < x.slot)).length cap]) rfl (H11.cellsR (i := 0) rfl rfl))<|OS ty57 H11 2 rfl rfl rfl rfl rfl (by first | decide | (simp; done) | simp [putAt]) rfl<|fun w12 H12=>Xr e122<|J5<|fin_cell rfl ty57 (cs := [.int .i64 s.p.r, .int .i64 s.p.n, .slice (hd g3) (behind s.votes n.entry.slot).length cap3, .int .i64 n.entry.slot, .slice B2 n.entry.val.length j2, .slice (hd (some gx)) (s.entries.filter fun x => decide (n.entry.slot < x.slot)).length cap]) rfl rfl (H12.cellsR (i := 2) rfl rfl) ?_
 have h0 : imgEn s.entries n.entry.slot = (s.entries.filter fun x => decide (n.entry.slot < x.slot)) := by
   unfold imgEn
   cases hq : (s.entries.filter fun x => decide (n.entry.slot < x.slot)) with
   | nil => simp [hq] at he0
   | cons a r =>
     rw [hq] at he0
     cases he0
     exact if_pos (by omega)
 refine ⟨_, rfl, ?_, H12.noRows⟩
 rw [goes4 (by omega), if_neg (by omega), h0]
 exact ⟨hd g3, cap3, B2, j2, hd (some gx), cap, rfl, Sl.row H12 (i := 4) rfl hG3.2.2.2 (by decide) (behind_rows (hav2.imp fun p x h => h.to H12 up_k0)) (row_new H12 (i := 4) rfl (fun _ h => by cases h)), hbe.to H12 up_k0, Sl.row H12 (i := 3) rfl hG.2.2.2 (by decide) (hef.imp fun p x h => h.to H12 up_k0) (row_new H12 (i := 3) rfl (fun _ h => by cases h))⟩
 refine SV (ex_move rfl)<|cStl e122<|still_no rfl<|still_no rfl<|cStl e122<|still_no rfl<|still_no rfl<|cStl e122<|still_no rfl<|still_no rfl<|cStl e122<|still_no rfl<|still_no rfl<|cStl e122<|still_no rfl<|SV (ex_pick_f rfl rfl)<|still_nil<|cR e122<|J4 rfl<|J6<|J1<|run_mixZ 12 [(true, 0), (true, 1), (true, 2), (true, 3), (true, 4), (true, 5), (true, 6), (true, 7), (false, 8), (true, 9), (false, 10), (true, 11), (false, 12)] H5 [1] mixed (by decide) (by kernel_rfl) ?_
 rintro w6 hw6
 have H6 := Hp.drew H5; rw [← hw6] at H6
 refine Zf rfl fl45_4 rfl<|Zf rfl fl41_0 rfl<|MP rfl<|MV (fun wz hz => EL ty3 rfl (hz.cell (i := 0) rfl rfl))<|Zf rfl fl45_4 rfl<|cZ e122<|Zf rfl fl41_1 rfl<|MP rfl<|MV (fun wz hz => EL ty37 rfl (hz.cell (i := 0) rfl rfl))<|Zm rfl rfl<|Zf rfl fl57_2 rfl<|cZ e122<|MO rfl<|OW ty3 H6 0 rfl rfl rfl rfl (by first | (simp; done) | simp [putAt]) rfl<|fun w7 H7=>OE<|⟨fun hne => H7.pick [1] (by decide), ?_⟩
 refine cZ e122<|Zf rfl fl57_3 rfl<|MO rfl<|OW ty37 H7 0 rfl rfl rfl rfl (by first | (simp; done) | simp [putAt]) rfl<|fun w8 H8=>OE<|⟨fun hne => H8.pick [1] (by decide), ?_⟩
 refine cZ e122<|Zf rfl fl57_4 rfl<|MO rfl<|OW ty55 H8 0 rfl rfl rfl rfl (by first | (simp; done) | simp [putAt]) rfl<|fun w9 H9=>OE<|⟨fun hne => absurd rfl hne, ?_⟩
 refine cZ e122<|ME<|cR e122<|J2<|Xf fl57_1 rfl<|OV (EL ty54 rfl (H9.cell (i := 0) rfl rfl))<|Xf fl45_4 rfl<|Xf fl41_0 rfl<|cOp e122<|OV (EL ty3 rfl (H9.cell (i := 1) rfl rfl))<|OQ (EC gf45 rfl) (behind_r A1 k1 pv s.votes n.entry.slot ok _ hpv (hrv.to0 H9) (hav2.imp fun p x h => h.to H9 k0) (by omega)) ?_
 rintro _ w10 ⟨g3, cap3, sp3, rfl, hG3, Hc⟩
 have H10 := H9.call0 Hc
 have hBL : (pv.filter fun p => !vtLe n.entry.slot p).length = (behind s.votes n.entry.slot).length := (behind_rows hav2).len
 rw [hBL]
 refine Xf fl57_1 rfl<|OW ty54 H10 0 rfl rfl rfl rfl (by first | (simp; done) | simp [putAt]) rfl<|fun w11 H11=>Xr e122<|run_nil (blk_normal ?_)
 refine Rq<|OV (EN ty57 rfl (vs := [.int .i64 s.p.r, .int .i64 s.p.n, .slice (hd g3) (behind s.votes n.entry.slot).length cap3, .int .i64 n.entry.slot, .slice B2 n.entry.val.length j2, .slice (hd g) (s.entries.filter fun x => decide (n.entry.slot < x.slot)).length cap]) rfl (H11.cellsR (i := 0) rfl rfl))<|OS ty57 H11 2 rfl rfl rfl rfl rfl (by first | decide | (simp; done) | simp [putAt]) rfl<|fun w12 H12=>Xr e122<|J5<|fin_cell rfl ty57 (cs := [.int .i64 s.p.r, .int .i64 s.p.n, .slice (hd g3) (behind s.votes n.entry.slot).length cap3, .int .i64 n.entry.slot, .slice B2 n.entry.val.length j2, .slice (hd g) (s.entries.filter fun x => decide (n.entry.slot < x.slot)).length cap]) rfl rfl (H12.cellsR (i := 2) rfl rfl) ?_
 have h0 : imgEn s.entries n.entry.slot = (s.entries.filter fun x => decide (n.entry.slot < x.slot)) := by
   unfold imgEn
   have : (s.entries.filter fun x => decide (n.entry.slot < x.slot)) = [] := List.eq_nil_of_length_eq_zero (by omega)
   rw [this]
 refine ⟨_, rfl, ?_, H12.noRows⟩
 rw [goes4 (by omega), if_neg (by omega), h0]
 exact ⟨hd g3, cap3, B2, j2, hd g, cap, rfl, Sl.row H12 (i := 4) rfl hG3.2.2.2 (by decide) (behind_rows (hav2.imp fun p x h => h.to H12 up_k0)) (row_new H12 (i := 4) rfl (fun _ h => by cases h)), hbe.to H12 up_k0, Sl.row H12 (i := 3) rfl hG.2.2.2 (by decide) (hef.imp fun p x h => h.to H12 up_k0) (row_new H12 (i := 3) rfl (fun _ h => by cases h))⟩
end Go.Proofs.YtbninklfoogmdaaGreat
