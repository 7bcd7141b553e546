/- Walks of layer 2, printed by wip/gen/codec.py. -/
import Derived.Test.YtoeobicpdeklaaaGreatNrm
import Derived.Test.YtoeobicpdeklaaaGreatWireV6
import Derived.Test.YtoeobicpdeklaaaGreatWireU
import Derived.Test.YtoeobicpdeklaaaGreatWireV1
namespace Go.Proofs.YtoeobicpdeklaaaGreat
open Go Go.RowKit
set_option linter.unusedVariables false
attribute [local irreducible] Still Ops Does Cd
set_option maxRecDepth 100000 in
set_option maxHeartbeats 4000000 in
theorem copyState_any (x : thstateF.X) (cells : List Value) (w0 : World) (hM : thstateF.M w0 (fun _ => True) x cells) (hsh : Short (thstateF.fl x)) (hba : x.1.1.1.1.1.2.length * 104 ≤ 140737488351232) (hbh : ∀ i (h : i < x.1.1.1.1.1.2.length), (x.1.1.1.1.1.2[i]).1.2.length * 32 ≤ 140737488351232) (hb2 : x.1.1.1.1.2.length * 56 ≤ 140737488351232) (hb3 : x.1.1.1.2.length * 104 ≤ 140737488351232) (hb4 : x.1.1.2.length * 80 ≤ 140737488351232) (hb5 : x.1.2.length * 16 ≤ 140737488351232) :
    Does Tryz.prog 5 #[.agg cells.toArray] w0 (fun r w' => ∃ cells', r = .agg cells'.toArray ∧ thstate.M w' (fun _ => True) x cells' ∧ Hp w0 w' [] []) := by
  refine does_of Tryz.func5 Tryz.ntmps5 rfl ?_
  refine nR28 ?_
  have H := Hp.refl w0
  obtain ⟨r6, s6, rfl, hq6, hs6⟩ := Th.split hM
  obtain ⟨r5, s5, rfl, hq5, hs5⟩ := Th.split hq6
  obtain ⟨r4, s4, rfl, hq4, hs4⟩ := Th.split hq5
  obtain ⟨r3, s3, rfl, hq3, hs3⟩ := Th.split hq4
  obtain ⟨r2, s2, rfl, hq2, hs2⟩ := Th.split hq3
  obtain ⟨s0, s1, rfl, hs0, hs1⟩ := Th.split hq2
  obtain ⟨a0, a1, a2, a3, a4, a5, rfl⟩ : ∃ a0 a1 a2 a3 a4 a5, s0 = [a0, a1, a2, a3, a4, a5] := by
    have hl := (Th.flat _).len hs0
    match s0, hl with
    | [a0, a1, a2, a3, a4, a5], _ => exact ⟨_, _, _, _, _, _, rfl⟩
  obtain ⟨B1, k1, cl1, rfl, hz1, hrd1, _, _, hel1⟩ := id hs1
  obtain ⟨B2, k2, cl2, rfl, hz2, hrd2, _, _, hel2⟩ := id hs2
  obtain ⟨B3, k3, cl3, rfl, hz3, hrd3, _, _, hel3⟩ := id hs3
  obtain ⟨B4, k4, cl4, rfl, hz4, hrd4, _, _, hel4⟩ := id hs4
  obtain ⟨B5, k5, cl5, rfl, hz5, hrd5, _, _, hel5⟩ := id hs5
  obtain ⟨sb, Bb, kb, hxb, hvb, hrb, _⟩ := get_bytes hs6 14 rfl
  have hsb := (Short.app hsh).2.get hxb
  obtain ⟨a11, a12, a13, a14, a15, a16, a17, a18, a19, a20, a21, a22, a23, a24, a25, a26, a27, a28, rfl⟩ : ∃ a11 a12 a13 a14 a15 a16 a17 a18 a19 a20 a21 a22 a23 a24 a25 a26 a27 a28, s6 = [a11, a12, a13, a14, a15, a16, a17, a18, a19, a20, a21, a22, a23, a24, a25, a26, a27, a28] := by
    have hl := (Th.flat _).len hs6
    match s6, hl with
    | [a11, a12, a13, a14, a15, a16, a17, a18, a19, a20, a21, a22, a23, a24, a25, a26, a27, a28], _ => exact ⟨_, _, _, _, _, _, _, _, _, _, _, _, _, _, _, _, _, _, rfl⟩
  obtain rfl : a25 = .slice Bb sb.length kb := by simpa using hvb
  have ho0 := Th.ones _ hs0
  have ho9 := Th.ones _ hs6
  refine run_seq ?_
  refine run_region ?_
  refine ops_box rfl rfl H ?_
  intro w1 g1 H1 hg1
  refine ops_alloc ty31 H1 ?_
  intro w2 gr H2 hgr
  refine ops_nil ?_
  refine nR28 ?_
  refine run_seq ?_
  refine run_region ?_
  refine ops_val (ex_fieldAddr fl31_6 rfl) ?_
  refine ops_val (ex_load ty22 rfl (H2.cell (i := 0) rfl rfl)) ?_
  refine ops_call (ex_call gf15 rfl) (copyAccounts_any B1 k1 x.1.1.1.1.1.2 _ ((Th.many thaccount false).mono ((Th.many thaccount false).to hs1 H2 (fun _ _ => by simp)) (fun _ _ => trivial)) hba hbh) ?_
  rintro _ w3 ⟨Bc, kc, rfl, hMa, Hd⟩
  replace hMa := (Th.many thaccount false).mono (ok' := fun p => p ∉ bl _) hMa (fun p hp hq => by have := bl_lt H2 hq; omega)
  have HA := (H2.call0 Hd).pick [0, 1] (by decide)
  have H3 := HA.here
  refine ops_val (ex_fieldAddr fl31_6 rfl) ?_
  refine nO28 ?_
  refine ops_store1 ty22 H3 0 rfl rfl rfl rfl (by simp only [List.length_append, List.length_cons, List.length_nil, List.length_set]; omega) rfl ?_
  intro w4 H4
  refine ops_nil ?_
  refine nR28 ?_
  refine run_seq ?_
  refine run_region ?_
  refine ops_val (ex_fieldAddr fl31_7 rfl) ?_
  refine ops_val (ex_load ty23 rfl (H4.cell (i := 0) rfl rfl)) ?_
  have HN0 := H4.nil 68
  have hlb2 := hz2.1
  refine ops_append Tryz.underlying23 ty68 (by decide) HN0 2 (g := none) (xs := []) (sp := []) rfl rfl rfl (by decide) (by decide) (fun _ => rfl) rfl (hrd2.to0 (HA.all HN0)) (many_ones hrd2.len hel2) (by omega) (by have := hb2; omega) (by decide) ?_
  intro w5 gA2 cA2 sA2 H5 hcA2 hmA2 hgA2
  refine ops_val (ex_fieldAddr fl31_7 rfl) ?_
  refine nO28 ?_
  refine ops_store1 ty23 H5 0 rfl rfl rfl rfl (by simp only [List.length_append, List.length_cons, List.length_nil, List.length_set]; omega) rfl ?_
  intro w6 H6
  refine ops_nil ?_
  refine nR28 ?_
  refine run_seq ?_
  refine run_region ?_
  refine ops_val (ex_fieldAddr fl31_8 rfl) ?_
  refine ops_val (ex_load ty24 rfl (H6.cell (i := 0) rfl rfl)) ?_
  have HN0 := H6.nil 71
  have hlb3 := hz3.1
  refine ops_append Tryz.underlying24 ty71 (by decide) HN0 3 (g := none) (xs := []) (sp := []) rfl rfl rfl (by decide) (by decide) (fun _ => rfl) rfl (hrd3.to0 (HA.all HN0)) (many_ones hrd3.len hel3) (by omega) (by have := hb3; omega) (by decide) ?_
  intro w7 gA3 cA3 sA3 H7 hcA3 hmA3 hgA3
  refine ops_val (ex_fieldAddr fl31_8 rfl) ?_
  refine nO28 ?_
  refine ops_store1 ty24 H7 0 rfl rfl rfl rfl (by simp only [List.length_append, List.length_cons, List.length_nil, List.length_set]; omega) rfl ?_
  intro w8 H8
  refine ops_nil ?_
  refine nR28 ?_
  refine run_seq ?_
  refine run_region ?_
  refine ops_val (ex_fieldAddr fl31_9 rfl) ?_
  refine ops_val (ex_load ty25 rfl (H8.cell (i := 0) rfl rfl)) ?_
  have HN0 := H8.nil 74
  have hlb4 := hz4.1
  refine ops_append Tryz.underlying25 ty74 (by decide) HN0 4 (g := none) (xs := []) (sp := []) rfl rfl rfl (by decide) (by decide) (fun _ => rfl) rfl (hrd4.to0 (HA.all HN0)) (many_ones hrd4.len hel4) (by omega) (by have := hb4; omega) (by decide) ?_
  intro w9 gA4 cA4 sA4 H9 hcA4 hmA4 hgA4
  refine ops_val (ex_fieldAddr fl31_9 rfl) ?_
  refine nO28 ?_
  refine ops_store1 ty25 H9 0 rfl rfl rfl rfl (by simp only [List.length_append, List.length_cons, List.length_nil, List.length_set]; omega) rfl ?_
  intro w10 H10
  refine ops_nil ?_
  refine nR28 ?_
  refine run_seq ?_
  refine run_region ?_
  refine ops_val (ex_fieldAddr fl31_10 rfl) ?_
  refine ops_val (ex_load ty26 rfl (H10.cell (i := 0) rfl rfl)) ?_
  have HN0 := H10.nil 77
  have hlb5 := hz5.1
  refine ops_append Tryz.underlying26 ty77 (by decide) HN0 5 (g := none) (xs := []) (sp := []) rfl rfl rfl (by decide) (by decide) (fun _ => rfl) rfl (hrd5.to0 (HA.all HN0)) (many_ones hrd5.len hel5) (by omega) (by have := hb5; omega) (by decide) ?_
  intro w11 gA5 cA5 sA5 H11 hcA5 hmA5 hgA5
  refine ops_val (ex_fieldAddr fl31_10 rfl) ?_
  refine nO28 ?_
  refine ops_store1 ty26 H11 0 rfl rfl rfl rfl (by simp only [List.length_append, List.length_cons, List.length_nil, List.length_set]; omega) rfl ?_
  intro w12 H12
  refine ops_nil ?_
  refine nR28 ?_
  refine run_seq ?_
  refine run_region ?_
  refine ops_val (ex_fieldAddr fl31_13 rfl) ?_
  refine ops_val (ex_load ty29 rfl (H12.cell (i := 0) rfl rfl)) ?_
  have HN0 := H12.nil 5
  refine ops_append Tryz.underlying29 ty5 (by decide) HN0 6 (g := none) (xs := []) (sp := []) rfl rfl rfl (by decide) (by decide) (fun _ => rfl) rfl (hrb.to0 (HA.all HN0)) (u8s_one' sb) (by omega) (by omega) (by decide) ?_
  intro w13 gI cI sI H13 hcI hmI hgI
  refine ops_val (ex_fieldAddr fl31_13 rfl) ?_
  refine nO28 ?_
  refine ops_store1 ty29 H13 0 rfl rfl rfl rfl (by simp only [List.length_append, List.length_cons, List.length_nil, List.length_set]; omega) rfl ?_
  intro w14 H14
  refine ops_nil ?_
  refine nR28 ?_
  refine run_seq ?_
  refine run_region ?_
  refine ops_val (ex_loadN ty31 rfl (vs := [a0, a1, a2, a3, a4, a5, (Value.slice Bc x.1.1.1.1.1.2.length kc), (Value.slice (hd gA2) (0 + x.1.1.1.1.2.length) cA2), (Value.slice (hd gA3) (0 + x.1.1.1.2.length) cA3), (Value.slice (hd gA4) (0 + x.1.1.2.length) cA4), (Value.slice (hd gA5) (0 + x.1.2.length) cA5), a11, a12, a13, a14, a15, a16, a17, a18, a19, a20, a21, a22, a23, a24, (Value.slice (hd gI) (0 + sb.length) cI), a26, a27, a28]) rfl (H14.cells (i := 0) rfl)) ?_
  have ho9b : ([a11, a12, a13, a14, a15, a16, a17, a18, a19, a20, a21, a22, a23, a24, (Value.slice Bb sb.length kb), a26, a27, a28].set 14 (Value.slice (hd gI) (0 + sb.length) cI)).all (·.oneCell') = true := by
    rw [List.all_eq_true]
    intro u hu
    rcases List.mem_or_eq_of_mem_set hu with hu | hu
    · exact List.all_eq_true.1 ho9 u hu
    · rw [hu]; rfl
  have hone : [a0, a1, a2, a3, a4, a5, (Value.slice Bc x.1.1.1.1.1.2.length kc), (Value.slice (hd gA2) (0 + x.1.1.1.1.2.length) cA2), (Value.slice (hd gA3) (0 + x.1.1.1.2.length) cA3), (Value.slice (hd gA4) (0 + x.1.1.2.length) cA4), (Value.slice (hd gA5) (0 + x.1.2.length) cA5), a11, a12, a13, a14, a15, a16, a17, a18, a19, a20, a21, a22, a23, a24, (Value.slice (hd gI) (0 + sb.length) cI), a26, a27, a28].all (·.oneCell') = true := by
    show ([a0, a1, a2, a3, a4, a5] ++ ([(Value.slice Bc x.1.1.1.1.1.2.length kc)] ++ [(Value.slice (hd gA2) (0 + x.1.1.1.1.2.length) cA2)] ++ [(Value.slice (hd gA3) (0 + x.1.1.1.2.length) cA3)] ++ [(Value.slice (hd gA4) (0 + x.1.1.2.length) cA4)] ++ [(Value.slice (hd gA5) (0 + x.1.2.length) cA5)]) ++ [a11, a12, a13, a14, a15, a16, a17, a18, a19, a20, a21, a22, a23, a24, (Value.slice (hd gI) (0 + sb.length) cI), a26, a27, a28]).all (·.oneCell') = true
    rw [List.all_append, List.all_append, ho0, show [a11, a12, a13, a14, a15, a16, a17, a18, a19, a20, a21, a22, a23, a24, (Value.slice (hd gI) (0 + sb.length) cI), a26, a27, a28].all (·.oneCell') = true from ho9b]
    rfl
  refine ops_store ty31 H14 1 rfl rfl rfl rfl rfl (Nat.le_refl 29) hone ?_
  intro w15 H15
  refine ops_nil ?_
  refine nR28 ?_
  refine run_ret ?_
  refine fin_cell rfl ty31 rfl rfl (H15.cells (i := 1) rfl) ?_
  have hze2 : 0 + x.1.1.1.1.2.length = x.1.1.1.1.2.length := Nat.zero_add _
  have hze3 : 0 + x.1.1.1.2.length = x.1.1.1.2.length := Nat.zero_add _
  have hze4 : 0 + x.1.1.2.length = x.1.1.2.length := Nat.zero_add _
  have hze5 : 0 + x.1.2.length = x.1.2.length := Nat.zero_add _
  have hzeI : 0 + sb.length = sb.length := Nat.zero_add _
  refine ⟨[a0, a1, a2, a3, a4, a5, (Value.slice Bc x.1.1.1.1.1.2.length kc), (Value.slice (hd gA2) (0 + x.1.1.1.1.2.length) cA2), (Value.slice (hd gA3) (0 + x.1.1.1.2.length) cA3), (Value.slice (hd gA4) (0 + x.1.1.2.length) cA4), (Value.slice (hd gA5) (0 + x.1.2.length) cA5), a11, a12, a13, a14, a15, a16, a17, a18, a19, a20, a21, a22, a23, a24, (Value.slice (hd gI) (0 + sb.length) cI), a26, a27, a28], rfl, ?_, (HA.all H15).pick [] (by decide)⟩
  rw [hze2, hze3, hze4, hze5, hzeI]
  exact (pair_app (pair_app (pair_app (pair_app (pair_app (pair_app (Th.mono _ (Th.to _ hs0 (HA.all H15) (fun _ _ => by simp)) (fun _ _ => trivial)) ((Th.many thaccount false).mono ((Th.many thaccount false).to hMa H15 (fun _ h => h)) (fun _ _ => trivial))) (many_copy (A := thmark) (tw' := true) (by decide) hz2.1 hrd2.len (fun i hi => Th.mono _ (Th.to _ (hel2 i hi) (HA.all H15) (fun _ _ => by simp)) (fun _ _ => trivial)) H15 (i := 2) (g := gA2) (T := 68) (sp := sA2) rfl)) (many_copy (A := thwait) (tw' := false) (by decide) hz3.1 hrd3.len (fun i hi => Th.mono _ (Th.to _ (hel3 i hi) (HA.all H15) (fun _ _ => by simp)) (fun _ _ => trivial)) H15 (i := 3) (g := gA3) (T := 71) (sp := sA3) rfl)) (many_copy (A := thdeal) (tw' := false) (by decide) hz4.1 hrd4.len (fun i hi => Th.mono _ (Th.to _ (hel4 i hi) (HA.all H15) (fun _ _ => by simp)) (fun _ _ => trivial)) H15 (i := 4) (g := gA4) (T := 74) (sp := sA4) rfl)) (many_copy (A := thend) (tw' := false) (by decide) hz5.1 hrd5.len (fun i hi => Th.mono _ (Th.to _ (hel5 i hi) (HA.all H15) (fun _ _ => by simp)) (fun _ _ => trivial)) H15 (i := 5) (g := gA5) (T := 77) (sp := sA5) rfl)) (show (Th.flat _).M _ (fun _ => True) _ [a11, a12, a13, a14, a15, a16, a17, a18, a19, a20, a21, a22, a23, a24, (Value.slice (hd gI) (sb.length) cI), a26, a27, a28] from ⟨hs6.1, set_bytes (FPs.mono (Th.to _ hs6 (HA.all H15) (fun _ _ => by simp)).2 (fun _ _ => trivial)) hxb (H15.rd (i := 6) (o := gI) (xs := u8s sb) (sp := sI) rfl (u8s_length1 sb) (by decide))⟩))
end Go.Proofs.YtoeobicpdeklaaaGreat
