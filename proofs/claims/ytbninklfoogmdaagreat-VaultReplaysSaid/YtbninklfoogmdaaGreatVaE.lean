/- Walks of layer 2, printed by wip/gen/codec.py. -/
import Derived.Test.YtbninklfoogmdaaGreatNf
import Derived.Test.YtbninklfoogmdaaGreatVaB
namespace Go.Proofs.YtbninklfoogmdaaGreat
open Go Go.RowKit
set_option linter.unusedVariables false
attribute [local irreducible] Still Ops Does Cd
set_option maxRecDepth 100000 in
set_option maxHeartbeats 16000000 in
theorem insertV (g : Option Nat) (cap i gv n : Nat) (ps : List (List Value)) (hn : ps.length = n) (vs sp : List Value) (w0 : World) (H0 : Hp w0 w0 (bl [((g, 39, ps.flatten ++ sp) : Ent)]) [((g, 39, ps.flatten ++ sp) : Ent)]) (hp : Pl 4 ps) (ho : ∀ p ∈ ps, p.all (·.oneCell') = true) (hl : ps.length ≤ cap) (hcz : cap * 4 ≤ (ps.flatten ++ sp).length) (hg0 : g = none → cap = 0) (hi : i ≤ ps.length) (hv : w0.heap[gv]? = some (.cells vs.toArray 39 (0, 0))) (hvl : vs.length = 4) (hvo : vs.all (·.oneCell') = true) (hgv : gv ∉ bl [((g, 39, ps.flatten ++ sp) : Ent)]) (hb : (ps.length + 1) * 48 ≤ 211106232532992) : Does Tryz.prog 88 #[.slice (hd g) n cap, .int .i64 (i : Int), .slice (some ⟨gv, 0, none⟩) 1 1] w0 (fun r w' => ∃ g' cap' sp', r = .slice (hd g') (ps.length + 1) cap' ∧ ps.length + 1 ≤ cap' ∧ cap' * 4 ≤ ((ps.take i ++ vs :: ps.drop i).flatten ++ sp').length ∧ (g' = none → cap' = 0) ∧ Hp w0 w' (bl [((g, 39, ps.flatten ++ sp) : Ent)]) [((g', 39, (ps.take i ++ vs :: ps.drop i).flatten ++ sp') : Ent)]) := by
 refine does_of Tryz.func88 Tryz.ntmps88 rfl<|cR e95 ?_
 subst hn
 have H := H0
 have hrd := H.rd (i := 0) rfl hp.len (by decide)
 have hones := ones_flatten ho
 refine Rq<|Xa rfl<|Xr e95<|Rq<|Xm rfl<|Xm rfl<|OV (ex_cutLo Tryz.underlying54 ty39 rfl rfl ⟨by omega, by omega⟩)<|Xr e95<|Rq<|Xm rfl<|OV (ES Tryz.underlying54 rfl)<|Xa rfl<|Xr e95<|J1<|Rq<|Xm rfl<|OT0 (ex_eql rfl rfl) (by decide)<|Xr e95<|J4 rfl<|J6<|Rq<|Xm rfl<|OV (ES Tryz.underlying54 rfl)<|Xa rfl<|Xr e95<|J1<|Rq<|Xm rfl<|Xm rfl ?_
 refine OT (ex_eql rfl rfl) (fun hp22 => ?_) (fun hp22 => ?_)
 obtain rfl : i = ps.length := by omega
 refine Xr e95<|J3 rfl<|Rq<|Xm rfl<|Xm rfl ?_
 have hvr := (⟨by rw [hvl], fun a ha jx u hu => by cases ha; rw [addn, Nat.zero_add]; exact (by simp [World.cell?, H.keep hv hgv, hu]), fun h => by cases h⟩ : Rd w0 (some ⟨gv, 0, none⟩) 1 4 vs)
 refine ops_append Tryz.underlying54 ty39 (by decide) H 0 (g := g) (xs := ps.flatten) (sp := sp) rfl rfl hp.len hcz hl hg0 rfl hvr hvo (by omega) (by omega) (by decide)<|fun w1 g2 cap2 sp2 H1 hcz2 hl2 hg2=>Xa rfl<|Xr e95<|J5<|FN1 rfl rfl ?_
 have e1 : (ps.take ps.length ++ vs :: ps.drop ps.length).flatten = ps.flatten ++ vs := by rw [List.take_length, List.drop_length]; simp
 refine ⟨g2, cap2, sp2, rfl, hl2, by rw [e1]; exact hcz2, hg2, ?_⟩
 rw [e1]
 exact H1
 have hil : i < ps.length := by omega
 obtain ⟨gx, rfl⟩ := own_some H (i := 0) rfl (by rw [List.length_append, hp.len]; have : 0 < ps.length * 4 := Nat.mul_pos (by omega) (by decide); omega)
 refine Xr e95<|J4 rfl<|J6<|J1<|Rq<|Xm rfl<|Xm rfl<|OV (ex_add rfl rfl (IntWalk.i64_in _ (by omega)))<|Xm rfl<|cOp e95<|OV (ex_cap_slice Tryz.underlying54 rfl)<|OT (ex_gtr rfl rfl) (fun hp31 => ?_) (fun hp31 => ?_)
 refine Xr e95<|J3 rfl<|Rq<|Xm rfl<|Xm rfl<|OV (ex_hi Tryz.underlying54 ty39 rfl rfl rfl (by omega))<|Xm rfl<|cOp e95<|Xm rfl<|OV (ex_add rfl rfl (IntWalk.i64_in _ (by omega)))<|Xm rfl<|OV (ex_sub rfl rfl ((IntWalk.i64_in _ (by omega)).trans (show ((ps.length : Int) + 1 - (i : Int)) = ((ps.length + 1 - i : Nat) : Int) by omega)))<|cOp e95<|ops_append0 Tryz.underlying54 Tryz.underlying3 ty39 (by decide) H rfl (hrd.headN (by omega) (fun h => by cases h)) rfl (by omega) (by omega) (by omega) (by omega) (by decide)<|fun w1 g2 cap2 sp2 H1 hcz2 hl2=>Xa rfl<|Xr e95<|Rq<|Xm rfl<|Xm rfl ?_
 have hie : i + (ps.length + 1 - i) = ps.length + 1 := by omega
 have hrow2 : (ps.flatten.take (i * 4) ++ initL [.int .i64 0, .int .i64 0, .int .i64 0, .slice none 0 0] (ps.length + 1 - i)).length = (ps.length + 1) * 4 := by
   rw [List.length_append, List.length_take, hp.len, initL_length, Nat.min_eq_left (Nat.mul_le_mul_right _ (by omega))]
   show i * 4 + (ps.length + 1 - i) * 4 = _
   rw [← Nat.add_mul, hie]
 have hlv : (i + 1) * 4 ≤ (ps.length + 1) * 4 := Nat.mul_le_mul_right _ (by omega)
 have hvr := (⟨by rw [hvl], fun a ha jx u hu => by cases ha; rw [addn, Nat.zero_add]; exact (by simp [World.cell?, H1.keep hv hgv, hu]), fun h => by cases h⟩ : Rd w1 (some ⟨gv, 0, none⟩) 1 4 vs)
 refine OV (ex_lo Tryz.underlying54 ty39 rfl rfl rfl (by omega) (by omega))<|Xm rfl<|cOp e95<|ops_copyN Tryz.underlying54 ty39 H1 1 (o := 0 + i * 4) (vs := vs) (by first | rfl | (rw [← addn]; rfl)) rfl rfl (by rw [hvl]; show 4 = Nat.min 1 (i + (ps.length + 1 - i) - i) * 4; rw [nminl]; omega) (fun jx u hu => hvr.cells _ rfl jx u hu) (by rw [List.length_append, hrow2, hvl]; omega) hvo<|fun w2 H2=>Xr e95<|J1<|run_mixZ 8 [(true, 0), (true, 1), (true, 2), (true, 3), (true, 4), (true, 5), (true, 6), (true, 7), (false, 8)] H2 [0, 1] mixed (by decide) (by kernel_rfl) ?_
 rintro w3 hw3
 have H3 := Hp.drew H2; rw [← hw3] at H3
 refine Zm rfl rfl<|Zm rfl rfl<|Zm rfl rfl<|MP rfl<|MV (fun wz hz => ex_add rfl rfl (IntWalk.i64_in _ (by omega)))<|cZ e95<|MP rfl<|MV (fun wz hz => ex_lo Tryz.underlying54 ty39 rfl rfl (i := i + 1) (by omega) (by omega) (by omega))<|Zm rfl rfl<|Zm rfl rfl<|MP rfl<|MV (fun wz hz => ex_lo Tryz.underlying54 ty39 rfl rfl rfl (by omega) (by omega))<|cZ e95<|MO rfl ?_
 have hdl : (ps.flatten.drop (i * 4)).length = (ps.length - i) * 4 := by rw [List.length_drop, hp.len, ← Nat.sub_mul]
 refine ops_copyN Tryz.underlying54 ty39 H3 1 (o := 0 + (i + 1) * 4) (vs := ps.flatten.drop (i * 4)) (by first | rfl | (rw [← addn]; rfl)) rfl rfl (by rw [hdl]; show _ = Nat.min (ps.length - i) (i + (ps.length + 1 - i) - (i + 1)) * 4; rw [nminl]; omega) (fun jx u hu => by
   rw [add_add, addn, Nat.zero_add]
   exact H3.cell (i := 0) rfl (by rw [List.getElem?_append_left (by have := lt_of_get hu; rw [List.length_drop] at this; omega)]; rwa [List.getElem?_drop] at hu)) (by rw [putAt_len (by rw [List.length_append, hrow2, hvl]; omega), List.length_append, hrow2, hdl, Nat.zero_add, ← Nat.add_mul, show i + 1 + (ps.length - i) = ps.length + 1 by omega]; omega) (by rw [List.all_eq_true] at hones ⊢; exact fun x hx => hones x (List.mem_of_mem_drop hx)) ?_
 intro w4 H4
 refine OE ?_
 refine ⟨fun hne => absurd rfl hne, ?_⟩
 refine cZ e95<|ME<|cR e95<|Rq<|Xm rfl<|Xa rfl<|Xr e95<|J5<|FN1 rfl rfl ?_
 have HZ := H4.pick [1] (by decide)
 change Hp _ _ _ [((some g2, 39, putAt (putAt _ (0 + i * 4) _) (0 + (i + 1) * 4) _) : Ent)] at HZ
 rw [Nat.zero_add, Nat.zero_add, ins_new (sp := sp2) hp rfl (by omega) hvl (by rw [initL_length]; rfl) rfl] at HZ
 refine ⟨some g2, cap2, sp2, by rw [hie], by omega, ?_, (fun h => by cases h), HZ⟩
 rw [List.length_append] at hcz2 ⊢
 rw [hrow2] at hcz2
 have hp2 : Pl 4 (ps.take i ++ vs :: ps.drop i) := (hp.sub fun x hx => List.mem_of_mem_take hx).app fun x hx => by
   rcases List.mem_cons.1 hx with rfl | hx
   · exact hvl
   · exact hp x (List.mem_of_mem_drop hx)
 rw [hp2.len]
 have : (ps.take i ++ vs :: ps.drop i).length = ps.length + 1 := by rw [List.length_append, List.length_cons, List.length_take, List.length_drop]; omega
 rw [this]; exact hcz2
 refine Xr e95<|J4 rfl<|J6<|Rq<|Xm rfl<|Xm rfl<|Xm rfl<|OV (ex_add rfl rfl (IntWalk.i64_in _ (by omega)))<|cOp e95 ?_
 have hspl : 4 ≤ sp.length := by
   rw [List.length_append, hp.len] at hcz
   have : (ps.length + 1) * 4 ≤ cap * 4 := Nat.mul_le_mul_right _ (by omega)
   omega
 refine OV (ex_hi Tryz.underlying54 ty39 rfl rfl (i := ps.length + 1) (by omega) (by omega))<|Xa rfl<|Xr e95<|J1<|Rq<|Xm rfl<|Xm rfl<|Xm rfl<|Xm rfl<|cOp e95<|OV (ex_add rfl rfl (IntWalk.i64_in _ (by omega)))<|OV (ex_lo Tryz.underlying54 ty39 rfl rfl (i := i + 1) (by omega) (by omega) (by omega)) ?_
 have hgvh := H.keep hv hgv
 have hgxh := H.at (i := 0) rfl
 have hne : gv ≠ gx := fun h => hgv (by rw [h]; simp [bl])
 refine ops_extern (fn := (Tryz.prog.funcs[101]?).get!) (e := Extern.SlicesOverlaps.overlaps #[54, 54] #[4]) (v := .bool false) (by kernel_rfl) (by kernel_rfl) (by kernel_rfl) (by kernel_rfl) (by kernel_rfl) rfl (Lib.run_overlaps_apart w0 54 4 39 Tryz.underlying54 4 (fun w => run_sizeOf ty39) ⟨gv, 0, none⟩ _ 1 1 _ _ (by rw [addn]; exact hne) 39 39 4 _ (by simp [World.shape?, hgvh]; exact hvl) (by rw [addn]; simp only [World.shape?, hgxh]; rfl) (by simp only [List.size_toArray, List.length_append]; omega) (by simp [World.frozen?, hgvh]) (by simp [World.frozen?, hgvh]))<|Xn rfl<|Xr e95<|J3 rfl<|J1<|run_mixZ 8 [(true, 0), (true, 1), (true, 2), (true, 3), (true, 4), (true, 5), (true, 6), (true, 7), (false, 8)] H [0] mixed (by decide) (by kernel_rfl) ?_
 rintro w1 hw1
 have H1 := Hp.drew H; rw [← hw1] at H1
 refine Zm rfl rfl<|Zm rfl rfl<|Zm rfl rfl<|MP rfl<|MV (fun wz hz => ex_add rfl rfl (IntWalk.i64_in _ (by omega)))<|cZ e95<|MP rfl<|MV (fun wz hz => ex_lo Tryz.underlying54 ty39 rfl rfl (i := i + 1) (by omega) (by omega) (by omega))<|Zm rfl rfl<|Zm rfl rfl<|MP rfl<|MV (fun wz hz => ex_lo Tryz.underlying54 ty39 rfl rfl rfl (by omega) (by omega))<|cZ e95<|MO rfl ?_
 have hdl : (ps.flatten.drop (i * 4)).length = (ps.length - i) * 4 := by rw [List.length_drop, hp.len, ← Nat.sub_mul]
 have hlv : (i + 1) * 4 + (ps.length - i) * 4 = (ps.length + 1) * 4 := by rw [← Nat.add_mul, show i + 1 + (ps.length - i) = ps.length + 1 by omega]
 have hlw : (ps.length + 1) * 4 = ps.length * 4 + 4 := by omega
 refine ops_copyN Tryz.underlying54 ty39 H1 0 (o := 0 + (i + 1) * 4) (vs := ps.flatten.drop (i * 4)) (by first | rfl | (rw [← addn]; rfl)) rfl rfl (by rw [hdl]; show _ = Nat.min (ps.length + 1 - i) (ps.length + 1 - (i + 1)) * 4; rw [show Nat.min (ps.length + 1 - i) (ps.length + 1 - (i + 1)) = ps.length - i from (by show min _ _ = _; omega)]) (fun jx u hu => by
   rw [add_add, addn, Nat.zero_add]
   exact H1.cell (i := 0) rfl (by rw [List.getElem?_append_left (by have := lt_of_get hu; rw [List.length_drop] at this; omega)]; rwa [List.getElem?_drop] at hu)) (by rw [List.length_append, hp.len, hdl]; omega) (by rw [List.all_eq_true] at hones ⊢; exact fun x hx => hones x (List.mem_of_mem_drop hx)) ?_
 intro w2 H2
 refine OE ?_
 refine ⟨fun hne => absurd rfl hne, ?_⟩
 refine cZ e95<|ME<|cR e95<|Rq<|Xm rfl<|Xm rfl<|OV (ex_lo Tryz.underlying54 ty39 rfl rfl rfl (by omega) (by omega))<|Xm rfl<|cOp e95 ?_
 have hvr := (⟨by rw [hvl], fun a ha jx u hu => by cases ha; rw [addn, Nat.zero_add]; exact (by simp [World.cell?, H2.keep hv hgv, hu]), fun h => by cases h⟩ : Rd w2 (some ⟨gv, 0, none⟩) 1 4 vs)
 refine ops_copyN Tryz.underlying54 ty39 H2 0 (o := 0 + i * 4) (vs := vs) (by first | rfl | (rw [← addn]; rfl)) rfl rfl (by rw [hvl]; show 4 = Nat.min 1 (ps.length + 1 - i) * 4; rw [nminl]; omega) (fun jx u hu => hvr.cells _ rfl jx u hu) (by rw [putAt_len (by rw [List.length_append, hp.len, hdl]; omega), List.length_append, hp.len, hvl]; have : i * 4 ≤ ps.length * 4 := Nat.mul_le_mul_right _ (by omega); omega) hvo<|fun w3 H3=>Xr e95<|Rq<|Xm rfl<|Xa rfl<|Xr e95<|J5<|FN1 rfl rfl ?_
 have HZ := H3
 change Hp _ _ _ [((some gx, 39, putAt (putAt _ (0 + (i + 1) * 4) _) (0 + i * 4) _) : Ent)] at HZ
 rw [Nat.zero_add, Nat.zero_add, ins_in hp rfl (by omega) hvl hspl] at HZ
 have hp2 : Pl 4 (ps.take i ++ vs :: ps.drop i) := (hp.sub fun x hx => List.mem_of_mem_take hx).app fun x hx => by
   rcases List.mem_cons.1 hx with rfl | hx
   · exact hvl
   · exact hp x (List.mem_of_mem_drop hx)
 have hl3 : (ps.take i ++ vs :: ps.drop i).length = ps.length + 1 := by rw [List.length_append, List.length_cons, List.length_take, List.length_drop]; omega
 refine ⟨some gx, cap, sp.drop 4, rfl, by omega, ?_, (fun h => by cases h), HZ⟩
 rw [List.length_append, hp.len] at hcz
 rw [List.length_append, hp2.len, hl3, List.length_drop]
 omega
set_option maxRecDepth 100000 in
set_option maxHeartbeats 16000000 in
theorem insertR (g : Option Nat) (cap i gv n : Nat) (ps : List (List Value)) (hn : ps.length = n) (vs sp : List Value) (w0 : World) (H0 : Hp w0 w0 (bl [((g, 43, ps.flatten ++ sp) : Ent)]) [((g, 43, ps.flatten ++ sp) : Ent)]) (hp : Pl 4 ps) (ho : ∀ p ∈ ps, p.all (·.oneCell') = true) (hl : ps.length ≤ cap) (hcz : cap * 4 ≤ (ps.flatten ++ sp).length) (hg0 : g = none → cap = 0) (hi : i ≤ ps.length) (hv : w0.heap[gv]? = some (.cells vs.toArray 43 (0, 0))) (hvl : vs.length = 4) (hvo : vs.all (·.oneCell') = true) (hgv : gv ∉ bl [((g, 43, ps.flatten ++ sp) : Ent)]) (hb : (ps.length + 1) * 40 ≤ 211106232532992) : Does Tryz.prog 78 #[.slice (hd g) n cap, .int .i64 (i : Int), .slice (some ⟨gv, 0, none⟩) 1 1] w0 (fun r w' => ∃ g' cap' sp', r = .slice (hd g') (ps.length + 1) cap' ∧ ps.length + 1 ≤ cap' ∧ cap' * 4 ≤ ((ps.take i ++ vs :: ps.drop i).flatten ++ sp').length ∧ (g' = none → cap' = 0) ∧ Hp w0 w' (bl [((g, 43, ps.flatten ++ sp) : Ent)]) [((g', 43, (ps.take i ++ vs :: ps.drop i).flatten ++ sp') : Ent)]) := by
 refine does_of Tryz.func78 Tryz.ntmps78 rfl<|cR e95 ?_
 subst hn
 have H := H0
 have hrd := H.rd (i := 0) rfl hp.len (by decide)
 have hones := ones_flatten ho
 refine Rq<|Xa rfl<|Xr e95<|Rq<|Xm rfl<|Xm rfl<|OV (ex_cutLo Tryz.underlying24 ty43 rfl rfl ⟨by omega, by omega⟩)<|Xr e95<|Rq<|Xm rfl<|OV (ES Tryz.underlying24 rfl)<|Xa rfl<|Xr e95<|J1<|Rq<|Xm rfl<|OT0 (ex_eql rfl rfl) (by decide)<|Xr e95<|J4 rfl<|J6<|Rq<|Xm rfl<|OV (ES Tryz.underlying24 rfl)<|Xa rfl<|Xr e95<|J1<|Rq<|Xm rfl<|Xm rfl ?_
 refine OT (ex_eql rfl rfl) (fun hp22 => ?_) (fun hp22 => ?_)
 obtain rfl : i = ps.length := by omega
 refine Xr e95<|J3 rfl<|Rq<|Xm rfl<|Xm rfl ?_
 have hvr := (⟨by rw [hvl], fun a ha jx u hu => by cases ha; rw [addn, Nat.zero_add]; exact (by simp [World.cell?, H.keep hv hgv, hu]), fun h => by cases h⟩ : Rd w0 (some ⟨gv, 0, none⟩) 1 4 vs)
 refine ops_append Tryz.underlying24 ty43 (by decide) H 0 (g := g) (xs := ps.flatten) (sp := sp) rfl rfl hp.len hcz hl hg0 rfl hvr hvo (by omega) (by omega) (by decide)<|fun w1 g2 cap2 sp2 H1 hcz2 hl2 hg2=>Xa rfl<|Xr e95<|J5<|FN1 rfl rfl ?_
 have e1 : (ps.take ps.length ++ vs :: ps.drop ps.length).flatten = ps.flatten ++ vs := by rw [List.take_length, List.drop_length]; simp
 refine ⟨g2, cap2, sp2, rfl, hl2, by rw [e1]; exact hcz2, hg2, ?_⟩
 rw [e1]
 exact H1
 have hil : i < ps.length := by omega
 obtain ⟨gx, rfl⟩ := own_some H (i := 0) rfl (by rw [List.length_append, hp.len]; have : 0 < ps.length * 4 := Nat.mul_pos (by omega) (by decide); omega)
 refine Xr e95<|J4 rfl<|J6<|J1<|Rq<|Xm rfl<|Xm rfl<|OV (ex_add rfl rfl (IntWalk.i64_in _ (by omega)))<|Xm rfl<|cOp e95<|OV (ex_cap_slice Tryz.underlying24 rfl)<|OT (ex_gtr rfl rfl) (fun hp31 => ?_) (fun hp31 => ?_)
 refine Xr e95<|J3 rfl<|Rq<|Xm rfl<|Xm rfl<|OV (ex_hi Tryz.underlying24 ty43 rfl rfl rfl (by omega))<|Xm rfl<|cOp e95<|Xm rfl<|OV (ex_add rfl rfl (IntWalk.i64_in _ (by omega)))<|Xm rfl<|OV (ex_sub rfl rfl ((IntWalk.i64_in _ (by omega)).trans (show ((ps.length : Int) + 1 - (i : Int)) = ((ps.length + 1 - i : Nat) : Int) by omega)))<|cOp e95<|ops_append0 Tryz.underlying24 Tryz.underlying3 ty43 (by decide) H rfl (hrd.headN (by omega) (fun h => by cases h)) rfl (by omega) (by omega) (by omega) (by omega) (by decide)<|fun w1 g2 cap2 sp2 H1 hcz2 hl2=>Xa rfl<|Xr e95<|Rq<|Xm rfl<|Xm rfl ?_
 have hie : i + (ps.length + 1 - i) = ps.length + 1 := by omega
 have hrow2 : (ps.flatten.take (i * 4) ++ initL [.int .i64 0, .string .empty, .int .i64 0, .int .i64 0] (ps.length + 1 - i)).length = (ps.length + 1) * 4 := by
   rw [List.length_append, List.length_take, hp.len, initL_length, Nat.min_eq_left (Nat.mul_le_mul_right _ (by omega))]
   show i * 4 + (ps.length + 1 - i) * 4 = _
   rw [← Nat.add_mul, hie]
 have hlv : (i + 1) * 4 ≤ (ps.length + 1) * 4 := Nat.mul_le_mul_right _ (by omega)
 have hvr := (⟨by rw [hvl], fun a ha jx u hu => by cases ha; rw [addn, Nat.zero_add]; exact (by simp [World.cell?, H1.keep hv hgv, hu]), fun h => by cases h⟩ : Rd w1 (some ⟨gv, 0, none⟩) 1 4 vs)
 refine OV (ex_lo Tryz.underlying24 ty43 rfl rfl rfl (by omega) (by omega))<|Xm rfl<|cOp e95<|ops_copyN Tryz.underlying24 ty43 H1 1 (o := 0 + i * 4) (vs := vs) (by first | rfl | (rw [← addn]; rfl)) rfl rfl (by rw [hvl]; show 4 = Nat.min 1 (i + (ps.length + 1 - i) - i) * 4; rw [nminl]; omega) (fun jx u hu => hvr.cells _ rfl jx u hu) (by rw [List.length_append, hrow2, hvl]; omega) hvo<|fun w2 H2=>Xr e95<|J1<|run_mixZ 8 [(true, 0), (true, 1), (true, 2), (true, 3), (true, 4), (true, 5), (true, 6), (true, 7), (false, 8)] H2 [0, 1] mixed (by decide) (by kernel_rfl) ?_
 rintro w3 hw3
 have H3 := Hp.drew H2; rw [← hw3] at H3
 refine Zm rfl rfl<|Zm rfl rfl<|Zm rfl rfl<|MP rfl<|MV (fun wz hz => ex_add rfl rfl (IntWalk.i64_in _ (by omega)))<|cZ e95<|MP rfl<|MV (fun wz hz => ex_lo Tryz.underlying24 ty43 rfl rfl (i := i + 1) (by omega) (by omega) (by omega))<|Zm rfl rfl<|Zm rfl rfl<|MP rfl<|MV (fun wz hz => ex_lo Tryz.underlying24 ty43 rfl rfl rfl (by omega) (by omega))<|cZ e95<|MO rfl ?_
 have hdl : (ps.flatten.drop (i * 4)).length = (ps.length - i) * 4 := by rw [List.length_drop, hp.len, ← Nat.sub_mul]
 refine ops_copyN Tryz.underlying24 ty43 H3 1 (o := 0 + (i + 1) * 4) (vs := ps.flatten.drop (i * 4)) (by first | rfl | (rw [← addn]; rfl)) rfl rfl (by rw [hdl]; show _ = Nat.min (ps.length - i) (i + (ps.length + 1 - i) - (i + 1)) * 4; rw [nminl]; omega) (fun jx u hu => by
   rw [add_add, addn, Nat.zero_add]
   exact H3.cell (i := 0) rfl (by rw [List.getElem?_append_left (by have := lt_of_get hu; rw [List.length_drop] at this; omega)]; rwa [List.getElem?_drop] at hu)) (by rw [putAt_len (by rw [List.length_append, hrow2, hvl]; omega), List.length_append, hrow2, hdl, Nat.zero_add, ← Nat.add_mul, show i + 1 + (ps.length - i) = ps.length + 1 by omega]; omega) (by rw [List.all_eq_true] at hones ⊢; exact fun x hx => hones x (List.mem_of_mem_drop hx)) ?_
 intro w4 H4
 refine OE ?_
 refine ⟨fun hne => absurd rfl hne, ?_⟩
 refine cZ e95<|ME<|cR e95<|Rq<|Xm rfl<|Xa rfl<|Xr e95<|J5<|FN1 rfl rfl ?_
 have HZ := H4.pick [1] (by decide)
 change Hp _ _ _ [((some g2, 43, putAt (putAt _ (0 + i * 4) _) (0 + (i + 1) * 4) _) : Ent)] at HZ
 rw [Nat.zero_add, Nat.zero_add, ins_new (sp := sp2) hp rfl (by omega) hvl (by rw [initL_length]; rfl) rfl] at HZ
 refine ⟨some g2, cap2, sp2, by rw [hie], by omega, ?_, (fun h => by cases h), HZ⟩
 rw [List.length_append] at hcz2 ⊢
 rw [hrow2] at hcz2
 have hp2 : Pl 4 (ps.take i ++ vs :: ps.drop i) := (hp.sub fun x hx => List.mem_of_mem_take hx).app fun x hx => by
   rcases List.mem_cons.1 hx with rfl | hx
   · exact hvl
   · exact hp x (List.mem_of_mem_drop hx)
 rw [hp2.len]
 have : (ps.take i ++ vs :: ps.drop i).length = ps.length + 1 := by rw [List.length_append, List.length_cons, List.length_take, List.length_drop]; omega
 rw [this]; exact hcz2
 refine Xr e95<|J4 rfl<|J6<|Rq<|Xm rfl<|Xm rfl<|Xm rfl<|OV (ex_add rfl rfl (IntWalk.i64_in _ (by omega)))<|cOp e95 ?_
 have hspl : 4 ≤ sp.length := by
   rw [List.length_append, hp.len] at hcz
   have : (ps.length + 1) * 4 ≤ cap * 4 := Nat.mul_le_mul_right _ (by omega)
   omega
 refine OV (ex_hi Tryz.underlying24 ty43 rfl rfl (i := ps.length + 1) (by omega) (by omega))<|Xa rfl<|Xr e95<|J1<|Rq<|Xm rfl<|Xm rfl<|Xm rfl<|Xm rfl<|cOp e95<|OV (ex_add rfl rfl (IntWalk.i64_in _ (by omega)))<|OV (ex_lo Tryz.underlying24 ty43 rfl rfl (i := i + 1) (by omega) (by omega) (by omega)) ?_
 have hgvh := H.keep hv hgv
 have hgxh := H.at (i := 0) rfl
 have hne : gv ≠ gx := fun h => hgv (by rw [h]; simp [bl])
 refine ops_extern (fn := (Tryz.prog.funcs[96]?).get!) (e := Extern.SlicesOverlaps.overlaps #[24, 24] #[4]) (v := .bool false) (by kernel_rfl) (by kernel_rfl) (by kernel_rfl) (by kernel_rfl) (by kernel_rfl) rfl (Lib.run_overlaps_apart w0 24 4 43 Tryz.underlying24 4 (fun w => run_sizeOf ty43) ⟨gv, 0, none⟩ _ 1 1 _ _ (by rw [addn]; exact hne) 43 43 4 _ (by simp [World.shape?, hgvh]; exact hvl) (by rw [addn]; simp only [World.shape?, hgxh]; rfl) (by simp only [List.size_toArray, List.length_append]; omega) (by simp [World.frozen?, hgvh]) (by simp [World.frozen?, hgvh]))<|Xn rfl<|Xr e95<|J3 rfl<|J1<|run_mixZ 8 [(true, 0), (true, 1), (true, 2), (true, 3), (true, 4), (true, 5), (true, 6), (true, 7), (false, 8)] H [0] mixed (by decide) (by kernel_rfl) ?_
 rintro w1 hw1
 have H1 := Hp.drew H; rw [← hw1] at H1
 refine Zm rfl rfl<|Zm rfl rfl<|Zm rfl rfl<|MP rfl<|MV (fun wz hz => ex_add rfl rfl (IntWalk.i64_in _ (by omega)))<|cZ e95<|MP rfl<|MV (fun wz hz => ex_lo Tryz.underlying24 ty43 rfl rfl (i := i + 1) (by omega) (by omega) (by omega))<|Zm rfl rfl<|Zm rfl rfl<|MP rfl<|MV (fun wz hz => ex_lo Tryz.underlying24 ty43 rfl rfl rfl (by omega) (by omega))<|cZ e95<|MO rfl ?_
 have hdl : (ps.flatten.drop (i * 4)).length = (ps.length - i) * 4 := by rw [List.length_drop, hp.len, ← Nat.sub_mul]
 have hlv : (i + 1) * 4 + (ps.length - i) * 4 = (ps.length + 1) * 4 := by rw [← Nat.add_mul, show i + 1 + (ps.length - i) = ps.length + 1 by omega]
 have hlw : (ps.length + 1) * 4 = ps.length * 4 + 4 := by omega
 refine ops_copyN Tryz.underlying24 ty43 H1 0 (o := 0 + (i + 1) * 4) (vs := ps.flatten.drop (i * 4)) (by first | rfl | (rw [← addn]; rfl)) rfl rfl (by rw [hdl]; show _ = Nat.min (ps.length + 1 - i) (ps.length + 1 - (i + 1)) * 4; rw [show Nat.min (ps.length + 1 - i) (ps.length + 1 - (i + 1)) = ps.length - i from (by show min _ _ = _; omega)]) (fun jx u hu => by
   rw [add_add, addn, Nat.zero_add]
   exact H1.cell (i := 0) rfl (by rw [List.getElem?_append_left (by have := lt_of_get hu; rw [List.length_drop] at this; omega)]; rwa [List.getElem?_drop] at hu)) (by rw [List.length_append, hp.len, hdl]; omega) (by rw [List.all_eq_true] at hones ⊢; exact fun x hx => hones x (List.mem_of_mem_drop hx)) ?_
 intro w2 H2
 refine OE ?_
 refine ⟨fun hne => absurd rfl hne, ?_⟩
 refine cZ e95<|ME<|cR e95<|Rq<|Xm rfl<|Xm rfl<|OV (ex_lo Tryz.underlying24 ty43 rfl rfl rfl (by omega) (by omega))<|Xm rfl<|cOp e95 ?_
 have hvr := (⟨by rw [hvl], fun a ha jx u hu => by cases ha; rw [addn, Nat.zero_add]; exact (by simp [World.cell?, H2.keep hv hgv, hu]), fun h => by cases h⟩ : Rd w2 (some ⟨gv, 0, none⟩) 1 4 vs)
 refine ops_copyN Tryz.underlying24 ty43 H2 0 (o := 0 + i * 4) (vs := vs) (by first | rfl | (rw [← addn]; rfl)) rfl rfl (by rw [hvl]; show 4 = Nat.min 1 (ps.length + 1 - i) * 4; rw [nminl]; omega) (fun jx u hu => hvr.cells _ rfl jx u hu) (by rw [putAt_len (by rw [List.length_append, hp.len, hdl]; omega), List.length_append, hp.len, hvl]; have : i * 4 ≤ ps.length * 4 := Nat.mul_le_mul_right _ (by omega); omega) hvo<|fun w3 H3=>Xr e95<|Rq<|Xm rfl<|Xa rfl<|Xr e95<|J5<|FN1 rfl rfl ?_
 have HZ := H3
 change Hp _ _ _ [((some gx, 43, putAt (putAt _ (0 + (i + 1) * 4) _) (0 + i * 4) _) : Ent)] at HZ
 rw [Nat.zero_add, Nat.zero_add, ins_in hp rfl (by omega) hvl hspl] at HZ
 have hp2 : Pl 4 (ps.take i ++ vs :: ps.drop i) := (hp.sub fun x hx => List.mem_of_mem_take hx).app fun x hx => by
   rcases List.mem_cons.1 hx with rfl | hx
   · exact hvl
   · exact hp x (List.mem_of_mem_drop hx)
 have hl3 : (ps.take i ++ vs :: ps.drop i).length = ps.length + 1 := by rw [List.length_append, List.length_cons, List.length_take, List.length_drop]; omega
 refine ⟨some gx, cap, sp.drop 4, rfl, by omega, ?_, (fun h => by cases h), HZ⟩
 rw [List.length_append, hp.len] at hcz
 rw [List.length_append, hp2.len, hl3, List.length_drop]
 omega
set_option maxRecDepth 100000 in
set_option maxHeartbeats 16000000 in
theorem insertM (g : Option Nat) (cap i gv n : Nat) (ps : List (List Value)) (hn : ps.length = n) (vs sp : List Value) (w0 : World) (H0 : Hp w0 w0 (bl [((g, 63, ps.flatten ++ sp) : Ent)]) [((g, 63, ps.flatten ++ sp) : Ent)]) (hp : Pl 7 ps) (ho : ∀ p ∈ ps, p.all (·.oneCell') = true) (hl : ps.length ≤ cap) (hcz : cap * 7 ≤ (ps.flatten ++ sp).length) (hg0 : g = none → cap = 0) (hi : i ≤ ps.length) (hv : w0.heap[gv]? = some (.cells vs.toArray 63 (0, 0))) (hvl : vs.length = 7) (hvo : vs.all (·.oneCell') = true) (hgv : gv ∉ bl [((g, 63, ps.flatten ++ sp) : Ent)]) (hb : (ps.length + 1) * 56 ≤ 211106232532992) : Does Tryz.prog 60 #[.slice (hd g) n cap, .int .i64 (i : Int), .slice (some ⟨gv, 0, none⟩) 1 1] w0 (fun r w' => ∃ g' cap' sp', r = .slice (hd g') (ps.length + 1) cap' ∧ ps.length + 1 ≤ cap' ∧ cap' * 7 ≤ ((ps.take i ++ vs :: ps.drop i).flatten ++ sp').length ∧ (g' = none → cap' = 0) ∧ Hp w0 w' (bl [((g, 63, ps.flatten ++ sp) : Ent)]) [((g', 63, (ps.take i ++ vs :: ps.drop i).flatten ++ sp') : Ent)]) := by
 refine does_of Tryz.func60 Tryz.ntmps60 rfl<|cR e95 ?_
 subst hn
 have H := H0
 have hrd := H.rd (i := 0) rfl hp.len (by decide)
 have hones := ones_flatten ho
 refine Rq<|Xa rfl<|Xr e95<|Rq<|Xm rfl<|Xm rfl<|OV (ex_cutLo Tryz.underlying25 ty63 rfl rfl ⟨by omega, by omega⟩)<|Xr e95<|Rq<|Xm rfl<|OV (ES Tryz.underlying25 rfl)<|Xa rfl<|Xr e95<|J1<|Rq<|Xm rfl<|OT0 (ex_eql rfl rfl) (by decide)<|Xr e95<|J4 rfl<|J6<|Rq<|Xm rfl<|OV (ES Tryz.underlying25 rfl)<|Xa rfl<|Xr e95<|J1<|Rq<|Xm rfl<|Xm rfl ?_
 refine OT (ex_eql rfl rfl) (fun hp22 => ?_) (fun hp22 => ?_)
 obtain rfl : i = ps.length := by omega
 refine Xr e95<|J3 rfl<|Rq<|Xm rfl<|Xm rfl ?_
 have hvr := (⟨by rw [hvl], fun a ha jx u hu => by cases ha; rw [addn, Nat.zero_add]; exact (by simp [World.cell?, H.keep hv hgv, hu]), fun h => by cases h⟩ : Rd w0 (some ⟨gv, 0, none⟩) 1 7 vs)
 refine ops_append Tryz.underlying25 ty63 (by decide) H 0 (g := g) (xs := ps.flatten) (sp := sp) rfl rfl hp.len hcz hl hg0 rfl hvr hvo (by omega) (by omega) (by decide)<|fun w1 g2 cap2 sp2 H1 hcz2 hl2 hg2=>Xa rfl<|Xr e95<|J5<|FN1 rfl rfl ?_
 have e1 : (ps.take ps.length ++ vs :: ps.drop ps.length).flatten = ps.flatten ++ vs := by rw [List.take_length, List.drop_length]; simp
 refine ⟨g2, cap2, sp2, rfl, hl2, by rw [e1]; exact hcz2, hg2, ?_⟩
 rw [e1]
 exact H1
 have hil : i < ps.length := by omega
 obtain ⟨gx, rfl⟩ := own_some H (i := 0) rfl (by rw [List.length_append, hp.len]; have : 0 < ps.length * 7 := Nat.mul_pos (by omega) (by decide); omega)
 refine Xr e95<|J4 rfl<|J6<|J1<|Rq<|Xm rfl<|Xm rfl<|OV (ex_add rfl rfl (IntWalk.i64_in _ (by omega)))<|Xm rfl<|cOp e95<|OV (ex_cap_slice Tryz.underlying25 rfl)<|OT (ex_gtr rfl rfl) (fun hp31 => ?_) (fun hp31 => ?_)
 refine Xr e95<|J3 rfl<|Rq<|Xm rfl<|Xm rfl<|OV (ex_hi Tryz.underlying25 ty63 rfl rfl rfl (by omega))<|Xm rfl<|cOp e95<|Xm rfl<|OV (ex_add rfl rfl (IntWalk.i64_in _ (by omega)))<|Xm rfl<|OV (ex_sub rfl rfl ((IntWalk.i64_in _ (by omega)).trans (show ((ps.length : Int) + 1 - (i : Int)) = ((ps.length + 1 - i : Nat) : Int) by omega)))<|cOp e95<|ops_append0 Tryz.underlying25 Tryz.underlying3 ty63 (by decide) H rfl (hrd.headN (by omega) (fun h => by cases h)) rfl (by omega) (by omega) (by omega) (by omega) (by decide)<|fun w1 g2 cap2 sp2 H1 hcz2 hl2=>Xa rfl<|Xr e95<|Rq<|Xm rfl<|Xm rfl ?_
 have hie : i + (ps.length + 1 - i) = ps.length + 1 := by omega
 have hrow2 : (ps.flatten.take (i * 7) ++ initL [.int .i64 0, .int .i64 0, .bool false, .int .i64 0, .int .i64 0, .int .i64 0, .int .i64 0] (ps.length + 1 - i)).length = (ps.length + 1) * 7 := by
   rw [List.length_append, List.length_take, hp.len, initL_length, Nat.min_eq_left (Nat.mul_le_mul_right _ (by omega))]
   show i * 7 + (ps.length + 1 - i) * 7 = _
   rw [← Nat.add_mul, hie]
 have hlv : (i + 1) * 7 ≤ (ps.length + 1) * 7 := Nat.mul_le_mul_right _ (by omega)
 have hvr := (⟨by rw [hvl], fun a ha jx u hu => by cases ha; rw [addn, Nat.zero_add]; exact (by simp [World.cell?, H1.keep hv hgv, hu]), fun h => by cases h⟩ : Rd w1 (some ⟨gv, 0, none⟩) 1 7 vs)
 refine OV (ex_lo Tryz.underlying25 ty63 rfl rfl rfl (by omega) (by omega))<|Xm rfl<|cOp e95<|ops_copyN Tryz.underlying25 ty63 H1 1 (o := 0 + i * 7) (vs := vs) (by first | rfl | (rw [← addn]; rfl)) rfl rfl (by rw [hvl]; show 7 = Nat.min 1 (i + (ps.length + 1 - i) - i) * 7; rw [nminl]; omega) (fun jx u hu => hvr.cells _ rfl jx u hu) (by rw [List.length_append, hrow2, hvl]; omega) hvo<|fun w2 H2=>Xr e95<|J1<|run_mixZ 8 [(true, 0), (true, 1), (true, 2), (true, 3), (true, 4), (true, 5), (true, 6), (true, 7), (false, 8)] H2 [0, 1] mixed (by decide) (by kernel_rfl) ?_
 rintro w3 hw3
 have H3 := Hp.drew H2; rw [← hw3] at H3
 refine Zm rfl rfl<|Zm rfl rfl<|Zm rfl rfl<|MP rfl<|MV (fun wz hz => ex_add rfl rfl (IntWalk.i64_in _ (by omega)))<|cZ e95<|MP rfl<|MV (fun wz hz => ex_lo Tryz.underlying25 ty63 rfl rfl (i := i + 1) (by omega) (by omega) (by omega))<|Zm rfl rfl<|Zm rfl rfl<|MP rfl<|MV (fun wz hz => ex_lo Tryz.underlying25 ty63 rfl rfl rfl (by omega) (by omega))<|cZ e95<|MO rfl ?_
 have hdl : (ps.flatten.drop (i * 7)).length = (ps.length - i) * 7 := by rw [List.length_drop, hp.len, ← Nat.sub_mul]
 refine ops_copyN Tryz.underlying25 ty63 H3 1 (o := 0 + (i + 1) * 7) (vs := ps.flatten.drop (i * 7)) (by first | rfl | (rw [← addn]; rfl)) rfl rfl (by rw [hdl]; show _ = Nat.min (ps.length - i) (i + (ps.length + 1 - i) - (i + 1)) * 7; rw [nminl]; omega) (fun jx u hu => by
   rw [add_add, addn, Nat.zero_add]
   exact H3.cell (i := 0) rfl (by rw [List.getElem?_append_left (by have := lt_of_get hu; rw [List.length_drop] at this; omega)]; rwa [List.getElem?_drop] at hu)) (by rw [putAt_len (by rw [List.length_append, hrow2, hvl]; omega), List.length_append, hrow2, hdl, Nat.zero_add, ← Nat.add_mul, show i + 1 + (ps.length - i) = ps.length + 1 by omega]; omega) (by rw [List.all_eq_true] at hones ⊢; exact fun x hx => hones x (List.mem_of_mem_drop hx)) ?_
 intro w4 H4
 refine OE ?_
 refine ⟨fun hne => absurd rfl hne, ?_⟩
 refine cZ e95<|ME<|cR e95<|Rq<|Xm rfl<|Xa rfl<|Xr e95<|J5<|FN1 rfl rfl ?_
 have HZ := H4.pick [1] (by decide)
 change Hp _ _ _ [((some g2, 63, putAt (putAt _ (0 + i * 7) _) (0 + (i + 1) * 7) _) : Ent)] at HZ
 rw [Nat.zero_add, Nat.zero_add, ins_new (sp := sp2) hp rfl (by omega) hvl (by rw [initL_length]; rfl) rfl] at HZ
 refine ⟨some g2, cap2, sp2, by rw [hie], by omega, ?_, (fun h => by cases h), HZ⟩
 rw [List.length_append] at hcz2 ⊢
 rw [hrow2] at hcz2
 have hp2 : Pl 7 (ps.take i ++ vs :: ps.drop i) := (hp.sub fun x hx => List.mem_of_mem_take hx).app fun x hx => by
   rcases List.mem_cons.1 hx with rfl | hx
   · exact hvl
   · exact hp x (List.mem_of_mem_drop hx)
 rw [hp2.len]
 have : (ps.take i ++ vs :: ps.drop i).length = ps.length + 1 := by rw [List.length_append, List.length_cons, List.length_take, List.length_drop]; omega
 rw [this]; exact hcz2
 refine Xr e95<|J4 rfl<|J6<|Rq<|Xm rfl<|Xm rfl<|Xm rfl<|OV (ex_add rfl rfl (IntWalk.i64_in _ (by omega)))<|cOp e95 ?_
 have hspl : 7 ≤ sp.length := by
   rw [List.length_append, hp.len] at hcz
   have : (ps.length + 1) * 7 ≤ cap * 7 := Nat.mul_le_mul_right _ (by omega)
   omega
 refine OV (ex_hi Tryz.underlying25 ty63 rfl rfl (i := ps.length + 1) (by omega) (by omega))<|Xa rfl<|Xr e95<|J1<|Rq<|Xm rfl<|Xm rfl<|Xm rfl<|Xm rfl<|cOp e95<|OV (ex_add rfl rfl (IntWalk.i64_in _ (by omega)))<|OV (ex_lo Tryz.underlying25 ty63 rfl rfl (i := i + 1) (by omega) (by omega) (by omega)) ?_
 have hgvh := H.keep hv hgv
 have hgxh := H.at (i := 0) rfl
 have hne : gv ≠ gx := fun h => hgv (by rw [h]; simp [bl])
 refine ops_extern (fn := (Tryz.prog.funcs[82]?).get!) (e := Extern.SlicesOverlaps.overlaps #[25, 25] #[4]) (v := .bool false) (by kernel_rfl) (by kernel_rfl) (by kernel_rfl) (by kernel_rfl) (by kernel_rfl) rfl (Lib.run_overlaps_apart w0 25 4 63 Tryz.underlying25 7 (fun w => run_sizeOf ty63) ⟨gv, 0, none⟩ _ 1 1 _ _ (by rw [addn]; exact hne) 63 63 7 _ (by simp [World.shape?, hgvh]; exact hvl) (by rw [addn]; simp only [World.shape?, hgxh]; rfl) (by simp only [List.size_toArray, List.length_append]; omega) (by simp [World.frozen?, hgvh]) (by simp [World.frozen?, hgvh]))<|Xn rfl<|Xr e95<|J3 rfl<|J1<|run_mixZ 8 [(true, 0), (true, 1), (true, 2), (true, 3), (true, 4), (true, 5), (true, 6), (true, 7), (false, 8)] H [0] mixed (by decide) (by kernel_rfl) ?_
 rintro w1 hw1
 have H1 := Hp.drew H; rw [← hw1] at H1
 refine Zm rfl rfl<|Zm rfl rfl<|Zm rfl rfl<|MP rfl<|MV (fun wz hz => ex_add rfl rfl (IntWalk.i64_in _ (by omega)))<|cZ e95<|MP rfl<|MV (fun wz hz => ex_lo Tryz.underlying25 ty63 rfl rfl (i := i + 1) (by omega) (by omega) (by omega))<|Zm rfl rfl<|Zm rfl rfl<|MP rfl<|MV (fun wz hz => ex_lo Tryz.underlying25 ty63 rfl rfl rfl (by omega) (by omega))<|cZ e95<|MO rfl ?_
 have hdl : (ps.flatten.drop (i * 7)).length = (ps.length - i) * 7 := by rw [List.length_drop, hp.len, ← Nat.sub_mul]
 have hlv : (i + 1) * 7 + (ps.length - i) * 7 = (ps.length + 1) * 7 := by rw [← Nat.add_mul, show i + 1 + (ps.length - i) = ps.length + 1 by omega]
 have hlw : (ps.length + 1) * 7 = ps.length * 7 + 7 := by omega
 refine ops_copyN Tryz.underlying25 ty63 H1 0 (o := 0 + (i + 1) * 7) (vs := ps.flatten.drop (i * 7)) (by first | rfl | (rw [← addn]; rfl)) rfl rfl (by rw [hdl]; show _ = Nat.min (ps.length + 1 - i) (ps.length + 1 - (i + 1)) * 7; rw [show Nat.min (ps.length + 1 - i) (ps.length + 1 - (i + 1)) = ps.length - i from (by show min _ _ = _; omega)]) (fun jx u hu => by
   rw [add_add, addn, Nat.zero_add]
   exact H1.cell (i := 0) rfl (by rw [List.getElem?_append_left (by have := lt_of_get hu; rw [List.length_drop] at this; omega)]; rwa [List.getElem?_drop] at hu)) (by rw [List.length_append, hp.len, hdl]; omega) (by rw [List.all_eq_true] at hones ⊢; exact fun x hx => hones x (List.mem_of_mem_drop hx)) ?_
 intro w2 H2
 refine OE ?_
 refine ⟨fun hne => absurd rfl hne, ?_⟩
 refine cZ e95<|ME<|cR e95<|Rq<|Xm rfl<|Xm rfl<|OV (ex_lo Tryz.underlying25 ty63 rfl rfl rfl (by omega) (by omega))<|Xm rfl<|cOp e95 ?_
 have hvr := (⟨by rw [hvl], fun a ha jx u hu => by cases ha; rw [addn, Nat.zero_add]; exact (by simp [World.cell?, H2.keep hv hgv, hu]), fun h => by cases h⟩ : Rd w2 (some ⟨gv, 0, none⟩) 1 7 vs)
 refine ops_copyN Tryz.underlying25 ty63 H2 0 (o := 0 + i * 7) (vs := vs) (by first | rfl | (rw [← addn]; rfl)) rfl rfl (by rw [hvl]; show 7 = Nat.min 1 (ps.length + 1 - i) * 7; rw [nminl]; omega) (fun jx u hu => hvr.cells _ rfl jx u hu) (by rw [putAt_len (by rw [List.length_append, hp.len, hdl]; omega), List.length_append, hp.len, hvl]; have : i * 7 ≤ ps.length * 7 := Nat.mul_le_mul_right _ (by omega); omega) hvo<|fun w3 H3=>Xr e95<|Rq<|Xm rfl<|Xa rfl<|Xr e95<|J5<|FN1 rfl rfl ?_
 have HZ := H3
 change Hp _ _ _ [((some gx, 63, putAt (putAt _ (0 + (i + 1) * 7) _) (0 + i * 7) _) : Ent)] at HZ
 rw [Nat.zero_add, Nat.zero_add, ins_in hp rfl (by omega) hvl hspl] at HZ
 have hp2 : Pl 7 (ps.take i ++ vs :: ps.drop i) := (hp.sub fun x hx => List.mem_of_mem_take hx).app fun x hx => by
   rcases List.mem_cons.1 hx with rfl | hx
   · exact hvl
   · exact hp x (List.mem_of_mem_drop hx)
 have hl3 : (ps.take i ++ vs :: ps.drop i).length = ps.length + 1 := by rw [List.length_append, List.length_cons, List.length_take, List.length_drop]; omega
 refine ⟨some gx, cap, sp.drop 7, rfl, by omega, ?_, (fun h => by cases h), HZ⟩
 rw [List.length_append, hp.len] at hcz
 rw [List.length_append, hp2.len, hl3, List.length_drop]
 omega
end Go.Proofs.YtbninklfoogmdaaGreat
