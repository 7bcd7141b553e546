/- Walks of layer 2, printed by wip/gen/codec.py. -/
import Derived.Test.YtoeobicpdeklaaaBig
import Derived.Test.YtoeobicpdeklaaaWireQ3
import Derived.Test.YtoeobicpdeklaaaWireQ1
import Derived.Test.YtoeobicpdeklaaaLst
namespace Go.Proofs.Ytoeobicpdeklaaa
open Go Go.RowKit
set_option linter.unusedVariables false
attribute [local irreducible] Still Ops Does Cd
set_option maxRecDepth 100000 in
set_option maxHeartbeats 4000000 in
theorem copyChart_any (x : thchartF.X) (cells : List Value) (w0 : World) (hM : thchartF.M w0 (fun _ => True) x cells) (hb1 : x.1.1.2.length * 32 ≤ 140737488351232) (hb3 : x.2.length * 56 ≤ 140737488351232) :
    Does Try.prog 26 #[.agg cells.toArray] w0 (fun r w' => ∃ cells', r = .agg cells'.toArray ∧ thchart.M w' (fun _ => True) x cells' ∧ Hp w0 w' [] []) := by
  refine does_of Try.func26 Try.ntmps26 rfl ?_
  change Run _ _ _ _ [.agg cells.toArray, undef, undef, undef, undef, undef, undef, undef, undef, undef, undef, undef] _
  have H := Hp.refl w0
  obtain ⟨r3, s3, rfl, hq3, hs3⟩ := Th.split hM
  obtain ⟨r2, s2, rfl, hq2, hs2⟩ := Th.split hq3
  obtain ⟨s0, s1, rfl, hs0, hs1⟩ := Th.split hq2
  obtain ⟨a0, rfl⟩ : ∃ a0, s0 = [a0] := by
    have hl := (Th.flat _).len hs0
    match s0, hl with
    | [a0], _ => exact ⟨_, rfl⟩
  obtain ⟨B1, k1, cl1, rfl, hz1, hrd1, _, _, hel1⟩ := hs1
  obtain ⟨a2, a3, a4, a5, a6, a7, a8, a9, a10, rfl⟩ : ∃ a2 a3 a4 a5 a6 a7 a8 a9 a10, s2 = [a2, a3, a4, a5, a6, a7, a8, a9, a10] := by
    have hl := (Th.flat _).len hs2
    match s2, hl with
    | [a2, a3, a4, a5, a6, a7, a8, a9, a10], _ => exact ⟨_, _, _, _, _, _, _, _, _, rfl⟩
  obtain ⟨B3, k3, cl3, rfl, hz3, hrd3, _, _, hel3⟩ := hs3
  have ho0 := Th.ones _ hs0
  have ho2 := Th.ones _ hs2
  refine run_seq ?_
  refine run_region ?_
  refine ops_box rfl rfl H ?_
  intro w1 g1 H1 hg1
  refine ops_alloc ty59 H1 ?_
  intro w2 g2 H2 hg2
  refine ops_nil ?_
  change Run _ _ _ _ [_, _, _, _, _, _, _, _, _, _, _, _] _
  refine run_seq ?_
  refine run_region ?_
  refine ops_val (ex_fieldAddr fl59_1 rfl) ?_
  refine ops_val (ex_load ty56 rfl (H2.cell (i := 0) rfl rfl)) ?_
  have HN0 := H2.nil 119
  have hlb1 := hz1.1
  refine ops_append Try.underlying56 ty119 (by decide) HN0 2 (g := none) (xs := []) (sp := []) rfl rfl rfl (by decide) (by decide) (fun _ => rfl) rfl (hrd1.to0 HN0) (many_ones hrd1.len hel1) (by omega) (by have := hb1; omega) (by decide) ?_
  intro w3 gA1 cA1 sA1 H3 hcA1 hmA1 hgA1
  refine ops_val (ex_fieldAddr fl59_1 rfl) ?_
  change Ops _ _ _ _ _ _ [_, _, _, _, _, _, _, _, _, _, _, _] _
  refine ops_store1 ty56 H3 0 rfl rfl rfl rfl (by simp only [List.length_append, List.length_cons, List.length_nil, List.length_set]; omega) rfl ?_
  intro w4 H4
  refine ops_nil ?_
  change Run _ _ _ _ [_, _, _, _, _, _, _, _, _, _, _, _] _
  refine run_seq ?_
  refine run_region ?_
  refine ops_val (ex_fieldAddr fl59_5 rfl) ?_
  refine ops_val (ex_load ty57 rfl (H4.cell (i := 0) rfl rfl)) ?_
  have HN0 := H4.nil 124
  have hlb3 := hz3.1
  refine ops_append Try.underlying57 ty124 (by decide) HN0 3 (g := none) (xs := []) (sp := []) rfl rfl rfl (by decide) (by decide) (fun _ => rfl) rfl (hrd3.to0 HN0) (many_ones hrd3.len hel3) (by omega) (by have := hb3; omega) (by decide) ?_
  intro w5 gA3 cA3 sA3 H5 hcA3 hmA3 hgA3
  refine ops_val (ex_fieldAddr fl59_5 rfl) ?_
  change Ops _ _ _ _ _ _ [_, _, _, _, _, _, _, _, _, _, _, _] _
  refine ops_store1 ty57 H5 0 rfl rfl rfl rfl (by simp only [List.length_append, List.length_cons, List.length_nil, List.length_set]; omega) rfl ?_
  intro w6 H6
  refine ops_nil ?_
  change Run _ _ _ _ [_, _, _, _, _, _, _, _, _, _, _, _] _
  refine run_seq ?_
  refine run_region ?_
  refine ops_val (ex_loadN ty59 rfl (vs := [a0, (Value.slice (hd gA1) (0 + x.1.1.2.length) cA1), a2, a3, a4, a5, a6, a7, a8, a9, a10, (Value.slice (hd gA3) (0 + x.2.length) cA3)]) rfl (H6.cells (i := 0) rfl)) ?_
  have hone : [a0, (Value.slice (hd gA1) (0 + x.1.1.2.length) cA1), a2, a3, a4, a5, a6, a7, a8, a9, a10, (Value.slice (hd gA3) (0 + x.2.length) cA3)].all (·.oneCell') = true := by
    show ([a0] ++ [(Value.slice (hd gA1) (0 + x.1.1.2.length) cA1)] ++ [a2, a3, a4, a5, a6, a7, a8, a9, a10] ++ [(Value.slice (hd gA3) (0 + x.2.length) cA3)]).all (·.oneCell') = true
    rw [List.all_append, List.all_append, List.all_append, ho0, ho2]
    rfl
  refine ops_store ty59 H6 1 rfl rfl rfl rfl rfl (Nat.le_refl 12) hone ?_
  intro w7 H7
  refine ops_nil ?_
  change Run _ _ _ _ [_, _, _, _, _, _, _, _, _, _, _, _] _
  refine run_ret ?_
  refine fin_cell rfl ty59 rfl rfl (H7.cells (i := 1) rfl) ?_
  have hze1 : 0 + x.1.1.2.length = x.1.1.2.length := Nat.zero_add _
  have hze3 : 0 + x.2.length = x.2.length := Nat.zero_add _
  refine ⟨[a0, (Value.slice (hd gA1) (0 + x.1.1.2.length) cA1), a2, a3, a4, a5, a6, a7, a8, a9, a10, (Value.slice (hd gA3) (0 + x.2.length) cA3)], rfl, ?_, H7.pick [] (by decide)⟩
  rw [hze1, hze3]
  exact (pair_app (pair_app (pair_app (Th.mono _ (Th.to _ hs0 H7 (fun _ _ => by simp)) (fun _ _ => trivial)) (many_copy (A := thplace) (tw' := false) (by decide) hz1.1 hrd1.len (fun i hi => Th.mono _ (Th.to _ (hel1 i hi) H7 (fun _ _ => by simp)) (fun _ _ => trivial)) H7 (i := 2) (g := gA1) (T := 119) (sp := sA1) rfl)) (Th.mono _ (Th.to _ hs2 H7 (fun _ _ => by simp)) (fun _ _ => trivial))) (many_copy (A := thmark) (tw' := true) (by decide) hz3.1 hrd3.len (fun i hi => Th.mono _ (Th.to _ (hel3 i hi) H7 (fun _ _ => by simp)) (fun _ _ => trivial)) H7 (i := 3) (g := gA3) (T := 124) (sp := sA3) rfl))
end Go.Proofs.Ytoeobicpdeklaaa
