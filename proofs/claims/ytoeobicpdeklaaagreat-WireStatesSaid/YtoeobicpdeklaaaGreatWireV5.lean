/- Walks of layer 2, printed by wip/gen/codec.py. -/
import Derived.Test.YtoeobicpdeklaaaGreatNrm
import Derived.Test.YtoeobicpdeklaaaGreatWireV4
namespace Go.Proofs.YtoeobicpdeklaaaGreat
open Go Go.RowKit
set_option linter.unusedVariables false
attribute [local irreducible] Still Ops Does Cd
theorem lay28 : lay Tryz.prog 6 28 [.int, .int, .int, .text, .text, .int, .int] = true := by kernel_rfl
theorem agg28 : aggT Tryz.prog 28 = true := by kernel_rfl
theorem eqg28 : Tryz.prog.eqGuardType Tryz.prog.depth 28 = false := by kernel_rfl
set_option maxRecDepth 100000 in
set_option maxHeartbeats 4000000 in
theorem sstateF_any (x : thstateF.X) (c1 c2 : List Value) (ok1 ok2 : Nat → Prop) (w0 : World) (hM1 : thstateF.M w0 ok1 x c1) (hM2 : thstateF.M w0 ok2 x c2) (hsh : Short (thstateF.fl x)) :
    Does Tryz.prog 11 #[.agg c1.toArray, .agg c2.toArray] w0 (fun r w' => r = .bool true ∧ Hp w0 w' [] []) := by
  refine does_of Tryz.func11 Tryz.ntmps11 rfl ?_
  refine nR123 ?_
  have H := Hp.refl w0
  have hl1 := thstateF.len hM1
  have hl2 := thstateF.len hM2
  have hS1_0 := (Th.fst (Th.fst (Th.fst (Th.fst (Th.fst (Th.fst hM1))))))
  have hA1_0 := At.castM (o' := 0) (cs := c1) hS1_0 (At.of_take (At.of_take (At.of_take (At.of_take (At.of_take (At.of_take (At.self _))))))) (by decide)
  have hS2_0 := (Th.fst (Th.fst (Th.fst (Th.fst (Th.fst (Th.fst hM2))))))
  have hA2_0 := At.castM (o' := 0) (cs := c2) hS2_0 (At.of_take (At.of_take (At.of_take (At.of_take (At.of_take (At.of_take (At.self _))))))) (by decide)
  have hS1_1 := (Th.snd (Th.fst (Th.fst (Th.fst (Th.fst (Th.fst hM1))))))
  have hA1_1 := At.castM (o' := 6) (cs := c1) hS1_1 (At.of_take (At.of_take (At.of_take (At.of_take (At.of_take (At.drop _ _)))))) (by decide)
  have hS2_1 := (Th.snd (Th.fst (Th.fst (Th.fst (Th.fst (Th.fst hM2))))))
  have hA2_1 := At.castM (o' := 6) (cs := c2) hS2_1 (At.of_take (At.of_take (At.of_take (At.of_take (At.of_take (At.drop _ _)))))) (by decide)
  obtain ⟨B1_1, k1_1, cl1_1, hv1_1, _⟩ := id hS1_1
  rw [hv1_1] at hS1_1 hA1_1
  replace hS1_1 := many_free hS1_1
  obtain ⟨B2_1, k2_1, cl2_1, hv2_1, _⟩ := id hS2_1
  rw [hv2_1] at hS2_1 hA2_1
  replace hS2_1 := many_free hS2_1
  have hS1_2 := (Th.snd (Th.fst (Th.fst (Th.fst (Th.fst hM1)))))
  have hA1_2 := At.castM (o' := 7) (cs := c1) hS1_2 (At.of_take (At.of_take (At.of_take (At.of_take (At.drop _ _))))) (by decide)
  have hS2_2 := (Th.snd (Th.fst (Th.fst (Th.fst (Th.fst hM2)))))
  have hA2_2 := At.castM (o' := 7) (cs := c2) hS2_2 (At.of_take (At.of_take (At.of_take (At.of_take (At.drop _ _))))) (by decide)
  obtain ⟨B1_2, k1_2, cl1_2, hv1_2, _⟩ := id hS1_2
  rw [hv1_2] at hS1_2 hA1_2
  replace hS1_2 := many_free hS1_2
  obtain ⟨B2_2, k2_2, cl2_2, hv2_2, _⟩ := id hS2_2
  rw [hv2_2] at hS2_2 hA2_2
  replace hS2_2 := many_free hS2_2
  have hS1_3 := (Th.snd (Th.fst (Th.fst (Th.fst hM1))))
  have hA1_3 := At.castM (o' := 8) (cs := c1) hS1_3 (At.of_take (At.of_take (At.of_take (At.drop _ _)))) (by decide)
  have hS2_3 := (Th.snd (Th.fst (Th.fst (Th.fst hM2))))
  have hA2_3 := At.castM (o' := 8) (cs := c2) hS2_3 (At.of_take (At.of_take (At.of_take (At.drop _ _)))) (by decide)
  obtain ⟨B1_3, k1_3, cl1_3, hv1_3, _⟩ := id hS1_3
  rw [hv1_3] at hS1_3 hA1_3
  replace hS1_3 := many_free hS1_3
  obtain ⟨B2_3, k2_3, cl2_3, hv2_3, _⟩ := id hS2_3
  rw [hv2_3] at hS2_3 hA2_3
  replace hS2_3 := many_free hS2_3
  have hS1_4 := (Th.snd (Th.fst (Th.fst hM1)))
  have hA1_4 := At.castM (o' := 9) (cs := c1) hS1_4 (At.of_take (At.of_take (At.drop _ _))) (by decide)
  have hS2_4 := (Th.snd (Th.fst (Th.fst hM2)))
  have hA2_4 := At.castM (o' := 9) (cs := c2) hS2_4 (At.of_take (At.of_take (At.drop _ _))) (by decide)
  obtain ⟨B1_4, k1_4, cl1_4, hv1_4, _⟩ := id hS1_4
  rw [hv1_4] at hS1_4 hA1_4
  replace hS1_4 := many_free hS1_4
  obtain ⟨B2_4, k2_4, cl2_4, hv2_4, _⟩ := id hS2_4
  rw [hv2_4] at hS2_4 hA2_4
  replace hS2_4 := many_free hS2_4
  have hS1_5 := (Th.snd (Th.fst hM1))
  have hA1_5 := At.castM (o' := 10) (cs := c1) hS1_5 (At.of_take (At.drop _ _)) (by decide)
  have hS2_5 := (Th.snd (Th.fst hM2))
  have hA2_5 := At.castM (o' := 10) (cs := c2) hS2_5 (At.of_take (At.drop _ _)) (by decide)
  obtain ⟨B1_5, k1_5, cl1_5, hv1_5, _⟩ := id hS1_5
  rw [hv1_5] at hS1_5 hA1_5
  replace hS1_5 := many_free hS1_5
  obtain ⟨B2_5, k2_5, cl2_5, hv2_5, _⟩ := id hS2_5
  rw [hv2_5] at hS2_5 hA2_5
  replace hS2_5 := many_free hS2_5
  have hS1_6 := (Th.snd hM1)
  have hA1_6 := At.castM (o' := 11) (cs := c1) hS1_6 (At.drop _ _) (by decide)
  have hS2_6 := (Th.snd hM2)
  have hA2_6 := At.castM (o' := 11) (cs := c2) hS2_6 (At.drop _ _) (by decide)
  obtain ⟨hsr6, hss6⟩ := Short.app hsh
  obtain ⟨hsr5, hss5⟩ := Short.app hsr6
  obtain ⟨hsr4, hss4⟩ := Short.app hsr5
  obtain ⟨hsr3, hss3⟩ := Short.app hsr4
  obtain ⟨hsr2, hss2⟩ := Short.app hsr3
  obtain ⟨hsr1, hss1⟩ := Short.app hsr2
  have hss0 := hsr1
  obtain ⟨n0, hx0, hv0, _, _⟩ := get_int hS1_0 0 rfl
  have hu0 := and_int hS2_0 hx0
  replace hv0 : c1[0]? = _ := hA1_0 0 _ hv0
  replace hu0 : c2[0]? = _ := hA2_0 0 _ hu0
  obtain ⟨n1, hx1, hv1, _, _⟩ := get_int hS1_0 1 rfl
  have hu1 := and_int hS2_0 hx1
  replace hv1 : c1[1]? = _ := hA1_0 1 _ hv1
  replace hu1 : c2[1]? = _ := hA2_0 1 _ hu1
  obtain ⟨n2, hx2, hv2⟩ := get_flag hS1_0 2 rfl
  have hu2 := and_flag hS2_0 hx2
  replace hv2 : c1[2]? = _ := hA1_0 2 _ hv2
  replace hu2 : c2[2]? = _ := hA2_0 2 _ hu2
  obtain ⟨n3, hx3, hv3⟩ := get_text hS1_0 3 rfl
  have hu3 := and_text hS2_0 hx3
  replace hv3 : c1[3]? = _ := hA1_0 3 _ hv3
  replace hu3 : c2[3]? = _ := hA2_0 3 _ hu3
  obtain ⟨n4, hx4, hv4⟩ := get_text hS1_0 4 rfl
  have hu4 := and_text hS2_0 hx4
  replace hv4 : c1[4]? = _ := hA1_0 4 _ hv4
  replace hu4 : c2[4]? = _ := hA2_0 4 _ hu4
  obtain ⟨n5, hx5, hv5, _, _⟩ := get_int hS1_0 5 rfl
  have hu5 := and_int hS2_0 hx5
  replace hv5 : c1[5]? = _ := hA1_0 5 _ hv5
  replace hu5 : c2[5]? = _ := hA2_0 5 _ hu5
  have hv6 : c1[6]? = some (.slice B1_1 _ k1_1) := hA1_1 0 _ rfl
  have hu6 : c2[6]? = some (.slice B2_1 _ k2_1) := hA2_1 0 _ rfl
  have hv7 : c1[7]? = some (.slice B1_2 _ k1_2) := hA1_2 0 _ rfl
  have hu7 : c2[7]? = some (.slice B2_2 _ k2_2) := hA2_2 0 _ rfl
  have hv8 : c1[8]? = some (.slice B1_3 _ k1_3) := hA1_3 0 _ rfl
  have hu8 : c2[8]? = some (.slice B2_3 _ k2_3) := hA2_3 0 _ rfl
  have hv9 : c1[9]? = some (.slice B1_4 _ k1_4) := hA1_4 0 _ rfl
  have hu9 : c2[9]? = some (.slice B2_4 _ k2_4) := hA2_4 0 _ rfl
  have hv10 : c1[10]? = some (.slice B1_5 _ k1_5) := hA1_5 0 _ rfl
  have hu10 : c2[10]? = some (.slice B2_5 _ k2_5) := hA2_5 0 _ rfl
  have hg1_11 := Th.part hS1_6 0 7
  have hg2_11 := Th.part hS2_6 0 7
  have ht1_11 := At.cast (o' := 11) (At.trans hA1_6 (At.sub _ 0 7)) (by decide)
  have ht2_11 := At.cast (o' := 11) (At.trans hA2_6 (At.sub _ 0 7)) (by decide)
  have hl111 := part_len hS1_6 (k := 0) (n := 7) (by decide)
  have hm111 := part_len hS2_6 (k := 0) (n := 7) (by decide)
  have hp11 := plain_one hg1_11 hg2_11 rfl
  have hg1_18 := Th.part hS1_6 7 7
  have hg2_18 := Th.part hS2_6 7 7
  have ht1_18 := At.cast (o' := 18) (At.trans hA1_6 (At.sub _ 7 7)) (by decide)
  have ht2_18 := At.cast (o' := 18) (At.trans hA2_6 (At.sub _ 7 7)) (by decide)
  have hl118 := part_len hS1_6 (k := 7) (n := 7) (by decide)
  have hm118 := part_len hS2_6 (k := 7) (n := 7) (by decide)
  have hp18 := plain_one hg1_18 hg2_18 rfl
  obtain ⟨n25, B25, k25, hx25, hv25, hr25, _⟩ := get_bytes hS1_6 14 rfl
  obtain ⟨C25, j25, hu25, hq25, _⟩ := and_bytes hS2_6 hx25
  have hs25 := hss6.get hx25
  replace hv25 : c1[25]? = _ := hA1_6 14 _ hv25
  replace hu25 : c2[25]? = _ := hA2_6 14 _ hu25
  obtain ⟨n26, hx26, hv26, _, _⟩ := get_int hS1_6 15 rfl
  have hu26 := and_int hS2_6 hx26
  replace hv26 : c1[26]? = _ := hA1_6 15 _ hv26
  replace hu26 : c2[26]? = _ := hA2_6 15 _ hu26
  obtain ⟨n27, hx27, hv27, _, _⟩ := get_int hS1_6 16 rfl
  have hu27 := and_int hS2_6 hx27
  replace hv27 : c1[27]? = _ := hA1_6 16 _ hv27
  replace hu27 : c2[27]? = _ := hA2_6 16 _ hu27
  obtain ⟨n28, hx28, hv28, _, _⟩ := get_int hS1_6 17 rfl
  have hu28 := and_int hS2_6 hx28
  replace hv28 : c1[28]? = _ := hA1_6 17 _ hv28
  replace hu28 : c2[28]? = _ := hA2_6 17 _ hu28
  refine run_seq ?_
  refine run_region ?_
  refine ops_box rfl rfl H ?_
  intro w1 g1 H1 hg1
  refine ops_box rfl rfl H1 ?_
  intro w2 g2 H2 hg2
  refine ops_val (ex_assign rfl) ?_
  refine ops_nil ?_
  refine nR123 ?_
  refine run_seq ?_
  refine run_seq ?_
  refine run_region ?_
  refine ops_val (ex_fieldAddr fl31_0 rfl) ?_
  refine ops_val (ex_load ty3 rfl (H2.cell (i := 0) rfl hv0)) ?_
  refine ops_val (ex_fieldAddr fl31_0 rfl) ?_
  refine ops_val (ex_load ty3 rfl (H2.cell (i := 1) rfl hu0)) ?_
  refine nO123 ?_
  refine ops_false (ex_neq rfl rfl) (by simp) ?_
  refine ops_val (ex_move rfl) ?_
  refine nO123 ?_
  refine ops_yes rfl ?_
  refine ops_val (ex_fieldAddr fl31_1 rfl) ?_
  refine ops_yes rfl ?_
  refine ops_val (ex_load ty3 rfl (H2.cell (i := 0) rfl hv1)) ?_
  refine nO123 ?_
  refine ops_yes rfl ?_
  refine ops_val (ex_fieldAddr fl31_1 rfl) ?_
  refine ops_yes rfl ?_
  refine ops_val (ex_load ty3 rfl (H2.cell (i := 1) rfl hu1)) ?_
  refine nO123 ?_
  refine ops_yes rfl ?_
  refine ops_false (ex_neq rfl rfl) (by simp) ?_
  refine ops_val (ex_pick_f rfl rfl) ?_
  refine ops_val (ex_move rfl) ?_
  refine nO123 ?_
  refine ops_yes rfl ?_
  refine ops_val (ex_fieldAddr fl31_2 rfl) ?_
  refine ops_yes rfl ?_
  refine ops_val (ex_load ty4 rfl (H2.cell (i := 0) rfl hv2)) ?_
  refine nO123 ?_
  refine ops_yes rfl ?_
  refine ops_val (ex_fieldAddr fl31_2 rfl) ?_
  refine ops_yes rfl ?_
  refine ops_val (ex_load ty4 rfl (H2.cell (i := 1) rfl hu2)) ?_
  refine nO123 ?_
  refine ops_yes rfl ?_
  refine ops_false (ex_neq_bool Tryz.underlying4 rfl rfl) (by simp) ?_
  refine ops_val (ex_pick_f rfl rfl) ?_
  refine ops_val (ex_move rfl) ?_
  refine nO123 ?_
  refine ops_yes rfl ?_
  refine ops_val (ex_fieldAddr fl31_3 rfl) ?_
  refine ops_yes rfl ?_
  refine ops_val (ex_load ty9 rfl (H2.cell (i := 0) rfl hv3)) ?_
  refine nO123 ?_
  refine ops_yes rfl ?_
  refine ops_val (ex_fieldAddr fl31_3 rfl) ?_
  refine ops_yes rfl ?_
  refine ops_val (ex_load ty9 rfl (H2.cell (i := 1) rfl hu3)) ?_
  refine nO123 ?_
  refine ops_yes rfl ?_
  refine ops_val (ex_neq_strS rfl rfl) ?_
  refine ops_val (ex_pick_f rfl rfl) ?_
  refine ops_val (ex_move rfl) ?_
  refine nO123 ?_
  refine ops_yes rfl ?_
  refine ops_val (ex_fieldAddr fl31_4 rfl) ?_
  refine ops_yes rfl ?_
  refine ops_val (ex_load ty9 rfl (H2.cell (i := 0) rfl hv4)) ?_
  refine nO123 ?_
  refine ops_yes rfl ?_
  refine ops_val (ex_fieldAddr fl31_4 rfl) ?_
  refine ops_yes rfl ?_
  refine ops_val (ex_load ty9 rfl (H2.cell (i := 1) rfl hu4)) ?_
  refine nO123 ?_
  refine ops_yes rfl ?_
  refine ops_val (ex_neq_strS rfl rfl) ?_
  refine ops_val (ex_pick_f rfl rfl) ?_
  refine ops_val (ex_move rfl) ?_
  refine nO123 ?_
  refine ops_yes rfl ?_
  refine ops_val (ex_fieldAddr fl31_5 rfl) ?_
  refine ops_yes rfl ?_
  refine ops_val (ex_load ty3 rfl (H2.cell (i := 0) rfl hv5)) ?_
  refine nO123 ?_
  refine ops_yes rfl ?_
  refine ops_val (ex_fieldAddr fl31_5 rfl) ?_
  refine ops_yes rfl ?_
  refine ops_val (ex_load ty3 rfl (H2.cell (i := 1) rfl hu5)) ?_
  refine nO123 ?_
  refine ops_yes rfl ?_
  refine ops_false (ex_neq rfl rfl) (by simp) ?_
  refine ops_val (ex_pick_f rfl rfl) ?_
  refine ops_val (ex_move rfl) ?_
  refine nO123 ?_
  refine ops_yes rfl ?_
  refine ops_val (ex_fieldAddr fl31_6 rfl) ?_
  refine ops_yes rfl ?_
  refine ops_val (ex_load ty22 rfl (H2.cell (i := 0) rfl hv6)) ?_
  refine nO123 ?_
  refine ops_yes rfl ?_
  refine ops_val (ex_fieldAddr fl31_6 rfl) ?_
  refine ops_yes rfl ?_
  refine ops_val (ex_load ty22 rfl (H2.cell (i := 1) rfl hu6)) ?_
  refine nO123 ?_
  refine ops_yes rfl ?_
  refine ops_call_val (ex_call gf24 rfl) (slistaccount_any _ _ _ _ _ _ _ _ (Th.to _ hS1_1 H2 (fun _ _ => by simp)) (Th.to _ hS2_1 H2 (fun _ _ => by simp)) hss1) ?_
  intro w3 Hd
  have H3 := H2.call0 Hd
  refine ops_yes rfl ?_
  refine ops_val (ex_not rfl) ?_
  refine ops_val (ex_pick_f rfl rfl) ?_
  refine ops_val (ex_move rfl) ?_
  refine nO123 ?_
  refine ops_yes rfl ?_
  refine ops_val (ex_fieldAddr fl31_7 rfl) ?_
  refine ops_yes rfl ?_
  refine ops_val (ex_load ty23 rfl (H3.cell (i := 0) rfl hv7)) ?_
  refine nO123 ?_
  refine ops_yes rfl ?_
  refine ops_val (ex_fieldAddr fl31_7 rfl) ?_
  refine ops_yes rfl ?_
  refine ops_val (ex_load ty23 rfl (H3.cell (i := 1) rfl hu7)) ?_
  refine nO123 ?_
  refine ops_yes rfl ?_
  refine ops_call_val (ex_call gf25 rfl) (plainmark_any _ _ _ _ _ _ _ _ (Th.to _ hS1_2 H3 (fun _ _ => by simp)) (Th.to _ hS2_2 H3 (fun _ _ => by simp))) ?_
  intro w4 Hd
  have H4 := H3.call0 Hd
  refine ops_yes rfl ?_
  refine ops_val (ex_not rfl) ?_
  refine ops_val (ex_pick_f rfl rfl) ?_
  refine ops_val (ex_move rfl) ?_
  refine nO123 ?_
  refine ops_yes rfl ?_
  refine ops_val (ex_fieldAddr fl31_8 rfl) ?_
  refine ops_yes rfl ?_
  refine ops_val (ex_load ty24 rfl (H4.cell (i := 0) rfl hv8)) ?_
  refine nO123 ?_
  refine ops_yes rfl ?_
  refine ops_val (ex_fieldAddr fl31_8 rfl) ?_
  refine ops_yes rfl ?_
  refine ops_val (ex_load ty24 rfl (H4.cell (i := 1) rfl hu8)) ?_
  refine nO123 ?_
  refine ops_yes rfl ?_
  refine ops_call_val (ex_call gf26 rfl) (plainwait_any _ _ _ _ _ _ _ _ (Th.to _ hS1_3 H4 (fun _ _ => by simp)) (Th.to _ hS2_3 H4 (fun _ _ => by simp))) ?_
  intro w5 Hd
  have H5 := H4.call0 Hd
  refine ops_yes rfl ?_
  refine ops_val (ex_not rfl) ?_
  refine ops_val (ex_pick_f rfl rfl) ?_
  refine ops_nil ?_
  refine nR123 ?_
  refine run_cond_false rfl ?_
  refine run_skip ?_
  refine run_seq ?_
  refine run_region ?_
  refine ops_val (ex_fieldAddr fl31_9 rfl) ?_
  refine ops_val (ex_load ty25 rfl (H5.cell (i := 0) rfl hv9)) ?_
  refine ops_val (ex_fieldAddr fl31_9 rfl) ?_
  refine ops_val (ex_load ty25 rfl (H5.cell (i := 1) rfl hu9)) ?_
  refine nO123 ?_
  refine ops_call_val (ex_call gf27 rfl) (plaindeal_any _ _ _ _ _ _ _ _ (Th.to _ hS1_4 H5 (fun _ _ => by simp)) (Th.to _ hS2_4 H5 (fun _ _ => by simp))) ?_
  intro w6 Hd
  have H6 := H5.call0 Hd
  refine ops_val (ex_move rfl) ?_
  refine nO123 ?_
  refine ops_yes rfl ?_
  refine ops_val (ex_fieldAddr fl31_10 rfl) ?_
  refine ops_yes rfl ?_
  refine ops_val (ex_load ty26 rfl (H6.cell (i := 0) rfl hv10)) ?_
  refine nO123 ?_
  refine ops_yes rfl ?_
  refine ops_val (ex_fieldAddr fl31_10 rfl) ?_
  refine ops_yes rfl ?_
  refine ops_val (ex_load ty26 rfl (H6.cell (i := 1) rfl hu10)) ?_
  refine nO123 ?_
  refine ops_yes rfl ?_
  refine ops_call_val (ex_call gf28 rfl) (plainend_any _ _ _ _ _ _ _ _ (Th.to _ hS1_5 H6 (fun _ _ => by simp)) (Th.to _ hS2_5 H6 (fun _ _ => by simp))) ?_
  intro w7 Hd
  have H7 := H6.call0 Hd
  refine ops_val (ex_pick_t rfl rfl) ?_
  refine ops_val (ex_move rfl) ?_
  refine nO123 ?_
  refine ops_yes rfl ?_
  refine ops_val (ex_fieldAddr fl31_11 rfl) ?_
  refine ops_yes rfl ?_
  refine ops_val (ex_loadN ty28 rfl (vs := _) hl111 (H7.cellsAt (i := 0) rfl ht1_11)) ?_
  refine nO123 ?_
  refine ops_yes rfl ?_
  refine ops_val (ex_fieldAddr fl31_11 rfl) ?_
  refine ops_yes rfl ?_
  refine ops_val (ex_loadN ty28 rfl (vs := _) hl111 (by rw [← hp11]; exact H7.cellsAt (i := 1) rfl ht2_11)) ?_
  refine nO123 ?_
  refine ops_yes rfl ?_
  refine ops_val (ex_eql_same lay28 (by decide) rfl agg28 eqg28 hg1_11 rfl rfl) ?_
  refine ops_val (ex_pick_t rfl rfl) ?_
  refine ops_val (ex_move rfl) ?_
  refine nO123 ?_
  refine ops_yes rfl ?_
  refine ops_val (ex_fieldAddr fl31_12 rfl) ?_
  refine ops_yes rfl ?_
  refine ops_val (ex_loadN ty28 rfl (vs := _) hl118 (H7.cellsAt (i := 0) rfl ht1_18)) ?_
  refine nO123 ?_
  refine ops_yes rfl ?_
  refine ops_val (ex_fieldAddr fl31_12 rfl) ?_
  refine ops_yes rfl ?_
  refine ops_val (ex_loadN ty28 rfl (vs := _) hl118 (by rw [← hp18]; exact H7.cellsAt (i := 1) rfl ht2_18)) ?_
  refine nO123 ?_
  refine ops_yes rfl ?_
  refine ops_val (ex_eql_same lay28 (by decide) rfl agg28 eqg28 hg1_18 rfl rfl) ?_
  refine ops_val (ex_pick_t rfl rfl) ?_
  refine ops_val (ex_move rfl) ?_
  refine nO123 ?_
  refine ops_yes rfl ?_
  refine ops_val (ex_fieldAddr fl31_13 rfl) ?_
  refine ops_yes rfl ?_
  refine ops_val (ex_load ty29 rfl (H7.cell (i := 0) rfl hv25)) ?_
  refine nO123 ?_
  refine ops_yes rfl ?_
  refine ops_val (ex_fieldAddr fl31_13 rfl) ?_
  refine ops_yes rfl ?_
  refine ops_val (ex_load ty29 rfl (H7.cell (i := 1) rfl hu25)) ?_
  refine nO123 ?_
  refine ops_yes rfl ?_
  have hk := bytes_any B25 C25 n25 n25 k25 j25 _ (hr25.to0 H7) (hq25.to0 H7) (by omega) (by omega)
  rw [decide_eq_true rfl] at hk
  refine ops_call_val (ex_call gf10 rfl) hk ?_
  intro w8 Hd
  have H8 := H7.call0 Hd
  refine ops_val (ex_pick_t rfl rfl) ?_
  refine ops_val (ex_move rfl) ?_
  refine nO123 ?_
  refine ops_yes rfl ?_
  refine ops_val (ex_fieldAddr fl31_14 rfl) ?_
  refine ops_yes rfl ?_
  refine ops_val (ex_load ty3 rfl (H8.cell (i := 0) rfl hv26)) ?_
  refine nO123 ?_
  refine ops_yes rfl ?_
  refine ops_val (ex_fieldAddr fl31_14 rfl) ?_
  refine ops_yes rfl ?_
  refine ops_val (ex_load ty3 rfl (H8.cell (i := 1) rfl hu26)) ?_
  refine nO123 ?_
  refine ops_yes rfl ?_
  refine ops_true (ex_eql rfl rfl) (rfl) ?_
  refine ops_val (ex_pick_t rfl rfl) ?_
  refine ops_val (ex_move rfl) ?_
  refine nO123 ?_
  refine ops_yes rfl ?_
  refine ops_val (ex_fieldAddr fl31_15 rfl) ?_
  refine ops_yes rfl ?_
  refine ops_val (ex_load ty3 rfl (H8.cell (i := 0) rfl hv27)) ?_
  refine nO123 ?_
  refine ops_yes rfl ?_
  refine ops_val (ex_fieldAddr fl31_15 rfl) ?_
  refine ops_yes rfl ?_
  refine ops_val (ex_load ty3 rfl (H8.cell (i := 1) rfl hu27)) ?_
  refine nO123 ?_
  refine ops_yes rfl ?_
  refine ops_true (ex_eql rfl rfl) (rfl) ?_
  refine ops_val (ex_pick_t rfl rfl) ?_
  refine ops_val (ex_move rfl) ?_
  refine nO123 ?_
  refine ops_yes rfl ?_
  refine ops_val (ex_fieldAddr fl31_16 rfl) ?_
  refine ops_yes rfl ?_
  refine ops_val (ex_load ty3 rfl (H8.cell (i := 0) rfl hv28)) ?_
  refine nO123 ?_
  refine ops_yes rfl ?_
  refine ops_val (ex_fieldAddr fl31_16 rfl) ?_
  refine ops_yes rfl ?_
  refine ops_val (ex_load ty3 rfl (H8.cell (i := 1) rfl hu28)) ?_
  refine nO123 ?_
  refine ops_yes rfl ?_
  refine ops_true (ex_eql rfl rfl) (rfl) ?_
  refine ops_val (ex_pick_t rfl rfl) ?_
  refine ops_val (ex_assign rfl) ?_
  refine ops_nil ?_
  refine nR123 ?_
  refine run_ret ?_
  refine fin_ret1 rfl rfl ?_
  exact ⟨rfl, H8.pick [] (by decide)⟩
end Go.Proofs.YtoeobicpdeklaaaGreat
