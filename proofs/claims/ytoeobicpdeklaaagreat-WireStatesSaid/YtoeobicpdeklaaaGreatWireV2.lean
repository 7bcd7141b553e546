/- Walks of layer 2, printed by wip/gen/codec.py. -/
import Derived.Test.YtoeobicpdeklaaaGreatNrm
import Derived.Test.YtoeobicpdeklaaaGreatWireV1
namespace Go.Proofs.YtoeobicpdeklaaaGreat
open Go Go.RowKit
set_option linter.unusedVariables false
attribute [local irreducible] Still Ops Does Cd
set_option maxRecDepth 100000 in
set_option maxHeartbeats 4000000 in
theorem vstate_w (gp go o : Nat) (g : Option Nat) (cap : Nat) (sp : List Value) (st : WS) (U : TypeId) (cs : List Value) (x : thstateF.X) (vs : List Value) (w0 : World) (m : Nat) (a : WS) (H0 : Hp w0 w0 (bl (vwo gp g cap sp st go U cs)) (vwo gp g cap sp st go U cs)) (hm : m + thstateF.mx ≤ 1000000000) (hP : POk m g cap sp st) (ha : Alike a st) (hM : thstateF.M w0 (fun b => b ∉ bl (vwo gp g cap sp st go U cs)) x vs) (hat : At cs o vs) :
    Does Tryz.prog 16 #[.pointer (some ⟨gp, 0, none⟩), .pointer (some ⟨go, o, none⟩)] w0 (fun _ w' => VwOut (m + thstateF.mx) gp (wAll (thstateF.fl x) a) go U cs w0 (bl (vwo gp g cap sp st go U cs)) w') := by
  refine does_of Tryz.func16 Tryz.ntmps16 rfl ?_
  refine nR85 ?_
  change m + 5046911 ≤ 1000000000 at hm
  have HS : VSt gp go o w0 (bl (vwo gp g cap sp st go U cs)) w0 (m + 0) a st thstateF x vs U cs g cap sp := ⟨H0, hP, ha, hM, hat⟩
  have H := HS.H.here
  refine run_seq ?_
  refine run_mixZ 8 [(true, 0), (true, 1), (true, 2), (true, 3), (true, 4), (true, 5), (true, 6), (false, 7), (false, 8)] H [0, 1, 2] mixed (by decide) (by kernel_rfl) ?_
  rintro w1 hw1
  have H1 := Hp.drew H; rw [← hw1] at H1
  refine mixz_p rfl ?_
  refine mix1_val (fun wz hz => ex_move rfl) ?_
  refine mixz_p rfl ?_
  refine mix1_val (fun wz hz => ex_move rfl) ?_
  refine mixz_p rfl ?_
  refine mix1_val (fun wz hz => ex_nilCheck rfl) ?_
  refine nZ85 ?_
  refine mixz_p rfl ?_
  refine mix1_val (fun wz hz => ex_fieldAddr fl31_0 rfl) ?_
  refine mixz_p rfl ?_
  refine mix1_val (fun wz hz => ex_move rfl) ?_
  refine mixz_p rfl ?_
  refine mix1_val (fun wz hz => ex_nilCheck rfl) ?_
  refine nZ85 ?_
  refine mixz_p rfl ?_
  refine mix1_val (fun wz hz => ex_fieldAddr fl31_1 rfl) ?_
  refine mixz_o rfl ?_
  refine ops_buildSlice Tryz.underlying130 ty82 H1 rfl (by decide) rfl ?_
  intro w2 g2 H2 hg2
  refine ops_nil ?_
  refine ⟨fun hne => H2.pick [0, 1, 2] (by decide), ?_⟩
  refine nZ85 ?_
  refine mixz_o rfl ?_
  refine ops_call (ex_call gf45 rfl) (HS.grp (p := 0) vnums_W H2 (by decide) (show m + 0 + 131090 ≤ _ by omega) (fun _ _ hM => (Th.part (Th.fst (Th.fst (Th.fst (Th.fst (Th.fst (Th.fst hM)))))) 0 2)) (At.cast (At.trans (At.of_take (At.of_take (At.of_take (At.of_take (At.of_take (At.of_take (At.self _))))))) (At.sub _ 0 2)) (by decide))) ?_
  rintro _ w3 ⟨st, g, cap, sp, HS0⟩
  have HS := VSt.re HS0 (m2 := m + 131090) (by show m + 0 + 131090 = m + 131090; omega)
  have H3 := HS.H.here
  refine ops_nil ?_
  refine ⟨fun hne => absurd rfl hne, ?_⟩
  refine nZ85 ?_
  refine mixz_nil ?_
  refine nR85 ?_
  refine run_seq ?_
  refine run_region ?_
  refine ops_val (ex_move rfl) ?_
  refine ops_val (ex_move rfl) ?_
  refine ops_val (ex_nilCheck rfl) ?_
  refine nO85 ?_
  refine ops_val (ex_fieldAddr fl31_2 rfl) ?_
  refine ops_call (ex_call gf46 rfl) (HS.one (p := 2) vflag_W (show m + 131090 + 65545 ≤ _ by omega) (fun _ _ hM => (Th.part (Th.fst (Th.fst (Th.fst (Th.fst (Th.fst (Th.fst hM)))))) 2 1)) (At.cast (At.trans (At.of_take (At.of_take (At.of_take (At.of_take (At.of_take (At.of_take (At.self _))))))) (At.sub _ 2 1)) (by decide))) ?_
  rintro _ w4 ⟨st, g, cap, sp, HS0⟩
  have HS := VSt.re HS0 (m2 := m + 196635) (by show m + 131090 + 65545 = m + 196635; omega)
  have H4 := HS.H.here
  refine ops_nil ?_
  refine nR85 ?_
  refine run_seq ?_
  refine run_region ?_
  refine ops_val (ex_move rfl) ?_
  refine ops_val (ex_move rfl) ?_
  refine ops_val (ex_nilCheck rfl) ?_
  refine nO85 ?_
  refine ops_val (ex_fieldAddr fl31_3 rfl) ?_
  refine ops_call (ex_call gf47 rfl) (HS.one (p := 3) vtext_W (show m + 196635 + 65545 ≤ _ by omega) (fun _ _ hM => (Th.part (Th.fst (Th.fst (Th.fst (Th.fst (Th.fst (Th.fst hM)))))) 3 1)) (At.cast (At.trans (At.of_take (At.of_take (At.of_take (At.of_take (At.of_take (At.of_take (At.self _))))))) (At.sub _ 3 1)) (by decide))) ?_
  rintro _ w5 ⟨st, g, cap, sp, HS0⟩
  have HS := VSt.re HS0 (m2 := m + 262180) (by show m + 196635 + 65545 = m + 262180; omega)
  have H5 := HS.H.here
  refine ops_nil ?_
  refine nR85 ?_
  refine run_seq ?_
  refine run_region ?_
  refine ops_val (ex_move rfl) ?_
  refine ops_val (ex_move rfl) ?_
  refine ops_val (ex_nilCheck rfl) ?_
  refine nO85 ?_
  refine ops_val (ex_fieldAddr fl31_4 rfl) ?_
  refine ops_call (ex_call gf47 rfl) (HS.one (p := 4) vtext_W (show m + 262180 + 65545 ≤ _ by omega) (fun _ _ hM => (Th.part (Th.fst (Th.fst (Th.fst (Th.fst (Th.fst (Th.fst hM)))))) 4 1)) (At.cast (At.trans (At.of_take (At.of_take (At.of_take (At.of_take (At.of_take (At.of_take (At.self _))))))) (At.sub _ 4 1)) (by decide))) ?_
  rintro _ w6 ⟨st, g, cap, sp, HS0⟩
  have HS := VSt.re HS0 (m2 := m + 327725) (by show m + 262180 + 65545 = m + 327725; omega)
  have H6 := HS.H.here
  refine ops_nil ?_
  refine nR85 ?_
  refine run_seq ?_
  refine run_region ?_
  refine ops_val (ex_move rfl) ?_
  refine ops_val (ex_move rfl) ?_
  refine ops_val (ex_nilCheck rfl) ?_
  refine nO85 ?_
  refine ops_val (ex_fieldAddr fl31_5 rfl) ?_
  refine ops_call (ex_call gf48 rfl) (HS.one (p := 5) vnum_W (show m + 327725 + 65545 ≤ _ by omega) (fun _ _ hM => (Th.part (Th.fst (Th.fst (Th.fst (Th.fst (Th.fst (Th.fst hM)))))) 5 1)) (At.cast (At.trans (At.of_take (At.of_take (At.of_take (At.of_take (At.of_take (At.of_take (At.self _))))))) (At.sub _ 5 1)) (by decide))) ?_
  rintro _ w7 ⟨st, g, cap, sp, HS0⟩
  have HS := VSt.re HS0 (m2 := m + 393270) (by show m + 327725 + 65545 = m + 393270; omega)
  have H7 := HS.H.here
  refine ops_nil ?_
  refine nR85 ?_
  refine run_seq ?_
  refine run_region ?_
  refine ops_val (ex_move rfl) ?_
  refine ops_val (ex_move rfl) ?_
  refine ops_val (ex_nilCheck rfl) ?_
  refine nO85 ?_
  refine ops_val (ex_fieldAddr fl31_6 rfl) ?_
  refine ops_call (ex_call gf49 rfl) (HS.one (p := 6) vlaccount_W (show m + 393270 + 1114247 ≤ _ by omega) (fun _ _ hM => (Th.snd (Th.fst (Th.fst (Th.fst (Th.fst (Th.fst hM))))))) (At.cast (At.of_take (At.of_take (At.of_take (At.of_take (At.of_take (At.drop _ _)))))) (by decide))) ?_
  rintro _ w8 ⟨st, g, cap, sp, HS0⟩
  have HS := VSt.re HS0 (m2 := m + 1507517) (by show m + 393270 + 1114247 = m + 1507517; omega)
  have H8 := HS.H.here
  refine ops_nil ?_
  refine nR85 ?_
  refine run_seq ?_
  refine run_region ?_
  refine ops_val (ex_move rfl) ?_
  refine ops_val (ex_move rfl) ?_
  refine ops_val (ex_nilCheck rfl) ?_
  refine nO85 ?_
  refine ops_val (ex_fieldAddr fl31_7 rfl) ?_
  refine ops_call (ex_call gf50 rfl) (HS.one (p := 7) vlmark_W (show m + 1507517 + 589896 ≤ _ by omega) (fun _ _ hM => (Th.snd (Th.fst (Th.fst (Th.fst (Th.fst hM)))))) (At.cast (At.of_take (At.of_take (At.of_take (At.of_take (At.drop _ _))))) (by decide))) ?_
  rintro _ w9 ⟨st, g, cap, sp, HS0⟩
  have HS := VSt.re HS0 (m2 := m + 2097413) (by show m + 1507517 + 589896 = m + 2097413; omega)
  have H9 := HS.H.here
  refine ops_nil ?_
  refine nR85 ?_
  refine run_seq ?_
  refine run_region ?_
  refine ops_val (ex_move rfl) ?_
  refine ops_val (ex_move rfl) ?_
  refine ops_val (ex_nilCheck rfl) ?_
  refine nO85 ?_
  refine ops_val (ex_fieldAddr fl31_8 rfl) ?_
  refine ops_call (ex_call gf51 rfl) (HS.one (p := 8) vlwait_W (show m + 2097413 + 852076 ≤ _ by omega) (fun _ _ hM => (Th.snd (Th.fst (Th.fst (Th.fst hM))))) (At.cast (At.of_take (At.of_take (At.of_take (At.drop _ _)))) (by decide))) ?_
  rintro _ w10 ⟨st, g, cap, sp, HS0⟩
  have HS := VSt.re HS0 (m2 := m + 2949489) (by show m + 2097413 + 852076 = m + 2949489; omega)
  have H10 := HS.H.here
  refine ops_nil ?_
  refine nR85 ?_
  refine run_seq ?_
  refine run_region ?_
  refine ops_val (ex_move rfl) ?_
  refine ops_val (ex_move rfl) ?_
  refine ops_val (ex_nilCheck rfl) ?_
  refine nO85 ?_
  refine ops_val (ex_fieldAddr fl31_9 rfl) ?_
  refine ops_call (ex_call gf52 rfl) (HS.one (p := 9) vldeal_W (show m + 2949489 + 655441 ≤ _ by omega) (fun _ _ hM => (Th.snd (Th.fst (Th.fst hM)))) (At.cast (At.of_take (At.of_take (At.drop _ _))) (by decide))) ?_
  rintro _ w11 ⟨st, g, cap, sp, HS0⟩
  have HS := VSt.re HS0 (m2 := m + 3604930) (by show m + 2949489 + 655441 = m + 3604930; omega)
  have H11 := HS.H.here
  refine ops_nil ?_
  refine nR85 ?_
  refine run_seq ?_
  refine run_region ?_
  refine ops_val (ex_move rfl) ?_
  refine ops_val (ex_move rfl) ?_
  refine ops_val (ex_nilCheck rfl) ?_
  refine nO85 ?_
  refine ops_val (ex_fieldAddr fl31_10 rfl) ?_
  refine ops_call (ex_call gf53 rfl) (HS.one (p := 10) vlend_W (show m + 3604930 + 262171 ≤ _ by omega) (fun _ _ hM => (Th.snd (Th.fst hM))) (At.cast (At.of_take (At.drop _ _)) (by decide))) ?_
  rintro _ w12 ⟨st, g, cap, sp, HS0⟩
  have HS := VSt.re HS0 (m2 := m + 3867101) (by show m + 3604930 + 262171 = m + 3867101; omega)
  have H12 := HS.H.here
  refine ops_nil ?_
  refine nR85 ?_
  refine run_seq ?_
  refine run_region ?_
  refine ops_val (ex_move rfl) ?_
  refine ops_val (ex_move rfl) ?_
  refine ops_val (ex_nilCheck rfl) ?_
  refine nO85 ?_
  refine ops_val (ex_fieldAddr fl31_11 rfl) ?_
  refine ops_call (ex_call gf54 rfl) (HS.one (p := 11) vplan_W (show m + 3867101 + 458815 ≤ _ by omega) (fun _ _ hM => (Th.part (Th.snd hM) 0 7)) (At.cast (At.trans (At.drop _ _) (At.sub _ 0 7)) (by decide))) ?_
  rintro _ w13 ⟨st, g, cap, sp, HS0⟩
  have HS := VSt.re HS0 (m2 := m + 4325916) (by show m + 3867101 + 458815 = m + 4325916; omega)
  have H13 := HS.H.here
  refine ops_nil ?_
  refine nR85 ?_
  refine run_seq ?_
  refine run_region ?_
  refine ops_val (ex_move rfl) ?_
  refine ops_val (ex_move rfl) ?_
  refine ops_val (ex_nilCheck rfl) ?_
  refine nO85 ?_
  refine ops_val (ex_fieldAddr fl31_12 rfl) ?_
  refine ops_call (ex_call gf54 rfl) (HS.one (p := 18) vplan_W (show m + 4325916 + 458815 ≤ _ by omega) (fun _ _ hM => (Th.part (Th.snd hM) 7 7)) (At.cast (At.trans (At.drop _ _) (At.sub _ 7 7)) (by decide))) ?_
  rintro _ w14 ⟨st, g, cap, sp, HS0⟩
  have HS := VSt.re HS0 (m2 := m + 4784731) (by show m + 4325916 + 458815 = m + 4784731; omega)
  have H14 := HS.H.here
  refine ops_nil ?_
  refine nR85 ?_
  refine run_seq ?_
  refine run_region ?_
  refine ops_val (ex_move rfl) ?_
  refine ops_val (ex_move rfl) ?_
  refine ops_val (ex_nilCheck rfl) ?_
  refine nO85 ?_
  refine ops_val (ex_fieldAddr fl31_13 rfl) ?_
  refine ops_call (ex_call gf55 rfl) (HS.one (p := 25) vbytes_W (show m + 4784731 + 65545 ≤ _ by omega) (fun _ _ hM => (Th.part (Th.snd hM) 14 1)) (At.cast (At.trans (At.drop _ _) (At.sub _ 14 1)) (by decide))) ?_
  rintro _ w15 ⟨st, g, cap, sp, HS0⟩
  have HS := VSt.re HS0 (m2 := m + 4850276) (by show m + 4784731 + 65545 = m + 4850276; omega)
  have H15 := HS.H.here
  refine ops_nil ?_
  refine nR85 ?_
  refine run_mixZ 11 [(true, 0), (true, 1), (true, 2), (true, 3), (true, 4), (true, 5), (true, 6), (true, 7), (true, 8), (true, 9), (false, 10), (false, 11)] H15 [0, 1, 2] mixed (by decide) (by kernel_rfl) ?_
  rintro w16 hw16
  have H16 := Hp.drew H15; rw [← hw16] at H16
  refine mixz_p rfl ?_
  refine mix1_val (fun wz hz => ex_move rfl) ?_
  refine mixz_p rfl ?_
  refine mix1_val (fun wz hz => ex_move rfl) ?_
  refine mixz_p rfl ?_
  refine mix1_val (fun wz hz => ex_nilCheck rfl) ?_
  refine nZ85 ?_
  refine mixz_p rfl ?_
  refine mix1_val (fun wz hz => ex_fieldAddr fl31_14 rfl) ?_
  refine mixz_p rfl ?_
  refine mix1_val (fun wz hz => ex_move rfl) ?_
  refine mixz_p rfl ?_
  refine mix1_val (fun wz hz => ex_nilCheck rfl) ?_
  refine nZ85 ?_
  refine mixz_p rfl ?_
  refine mix1_val (fun wz hz => ex_fieldAddr fl31_15 rfl) ?_
  refine mixz_p rfl ?_
  refine mix1_val (fun wz hz => ex_move rfl) ?_
  refine mixz_p rfl ?_
  refine mix1_val (fun wz hz => ex_nilCheck rfl) ?_
  refine nZ85 ?_
  refine mixz_p rfl ?_
  refine mix1_val (fun wz hz => ex_fieldAddr fl31_16 rfl) ?_
  refine mixz_o rfl ?_
  refine ops_buildSlice Tryz.underlying130 ty82 H16 rfl (by decide) rfl ?_
  intro w17 g17 H17 hg17
  refine ops_nil ?_
  refine ⟨fun hne => H17.pick [0, 1, 2] (by decide), ?_⟩
  refine nZ85 ?_
  refine mixz_o rfl ?_
  refine ops_call (ex_call gf45 rfl) (HS.grp (p := 26) vnums_W H17 (by decide) (show m + 4850276 + 196635 ≤ _ by omega) (fun _ _ hM => (Th.part (Th.snd hM) 15 3)) (At.cast (At.trans (At.drop _ _) (At.sub _ 15 3)) (by decide))) ?_
  rintro _ w18 ⟨st, g, cap, sp, HS0⟩
  have HS := VSt.re HS0 (m2 := m + 5046911) (by show m + 4850276 + 196635 = m + 5046911; omega)
  have H18 := HS.H.here
  refine ops_nil ?_
  refine ⟨fun hne => absurd rfl hne, ?_⟩
  refine nZ85 ?_
  refine mixz_nil ?_
  refine nR85 ?_
  refine run_nil ?_
  refine fin_end0 rfl ?_
  have hw0 : List.take 6 x.1.1.1.1.1.1 = x.1.1.1.1.1.1 := Th.whole (Th.fst (Th.fst (Th.fst (Th.fst (Th.fst (Th.fst hM))))))
  have hw6 : List.take 18 x.2 = x.2 := Th.whole (Th.snd hM)
  refine HS.out2 ?_ rfl
  show _ = wAll (x.1.1.1.1.1.1 ++ (Th.many thaccount false).fl x.1.1.1.1.1.2 ++ (Th.many thmark false).fl x.1.1.1.1.2 ++ (Th.many thwait false).fl x.1.1.1.2 ++ (Th.many thdeal false).fl x.1.1.2 ++ (Th.many thend false).fl x.1.2 ++ x.2) a
  simp only [List.drop_zero, wAll_part, wAll_append, Nat.reduceAdd, hw0, hw6]
theorem vstate_W : WalkW Tryz.prog 16 thstateF := vstate_w
set_option maxRecDepth 100000 in
set_option maxHeartbeats 4000000 in
theorem vstate_r (gp gr : Nat) (gb : Option Nat) (cb : Nat) (sb : List Value) (b : List UInt8) (hcb : b.length ≤ cb) (hbl : b.length ≤ 65536) (go o i e : Nat) (U : TypeId) (cs : List Value) (w0 : World) (H0 : Hp w0 w0 (bl (vr gp gr gb cb sb b i e ++ [(some go, U, cs)])) (vr gp gr gb cb sb b i e ++ [(some go, U, cs)])) (hi : i ≤ b.length) (hat : At cs o thstateF.zs) (hfit : o + thstateF.sz ≤ cs.length) :
    Does Tryz.prog 16 #[.pointer (some ⟨gp, 0, none⟩), .pointer (some ⟨go, o, none⟩)] w0 (fun _ w' => RdOut (vr gp gr gb cb sb b) thstateF go o U cs b i e w0.heap.size w0 (bl (vr gp gr gb cb sb b i e ++ [(some go, U, cs)])) w') := by
  refine does_of Tryz.func16 Tryz.ntmps16 rfl ?_
  refine nR85 ?_
  change o + 29 ≤ cs.length at hfit
  have HS := RSt.start (R := vr gp gr gb cb sb b) (o := o) H0 hi
  have H := HS.H.here
  refine run_seq ?_
  refine run_mixZ 8 [(true, 0), (true, 1), (true, 2), (true, 3), (true, 4), (true, 5), (true, 6), (false, 7), (false, 8)] H [0, 1, 2, 3] mixed (by decide) (by kernel_rfl) ?_
  rintro w1 hw1
  have H1 := Hp.drew H; rw [← hw1] at H1
  refine mixz_p rfl ?_
  refine mix1_val (fun wz hz => ex_move rfl) ?_
  refine mixz_p rfl ?_
  refine mix1_val (fun wz hz => ex_move rfl) ?_
  refine mixz_p rfl ?_
  refine mix1_val (fun wz hz => ex_nilCheck rfl) ?_
  refine nZ85 ?_
  refine mixz_p rfl ?_
  refine mix1_val (fun wz hz => ex_fieldAddr fl31_0 rfl) ?_
  refine mixz_p rfl ?_
  refine mix1_val (fun wz hz => ex_move rfl) ?_
  refine mixz_p rfl ?_
  refine mix1_val (fun wz hz => ex_nilCheck rfl) ?_
  refine nZ85 ?_
  refine mixz_p rfl ?_
  refine mix1_val (fun wz hz => ex_fieldAddr fl31_1 rfl) ?_
  refine mixz_o rfl ?_
  refine ops_buildSlice Tryz.underlying130 ty82 H1 rfl (by decide) rfl ?_
  intro w2 g2 H2 hg2
  refine ops_nil ?_
  refine ⟨fun hne => H2.pick [0, 1, 2, 3] (by decide), ?_⟩
  refine nZ85 ?_
  refine mixz_o rfl ?_
  refine ops_call (ex_call gf45 rfl) (HS.grp (q := 0) (vnums_R gp gr gb cb sb b hcb hbl) (by decide) H2 (by decide) (show o + 0 + 2 ≤ _ by omega) (At.cast (hat.trans (At.sub _ 0 2)) rfl) rfl rfl) ?_
  rintro _ w3 ⟨us, i1, e1, HS⟩
  replace HS := HS.join1
  have H3 := HS.H.here
  refine ops_nil ?_
  refine ⟨fun hne => absurd rfl hne, ?_⟩
  refine nZ85 ?_
  refine mixz_nil ?_
  refine nR85 ?_
  refine run_seq ?_
  refine run_region ?_
  refine ops_val (ex_move rfl) ?_
  refine ops_val (ex_move rfl) ?_
  refine ops_val (ex_nilCheck rfl) ?_
  refine nO85 ?_
  refine ops_val (ex_fieldAddr fl31_2 rfl) ?_
  refine ops_call (ex_call gf46 rfl) (HS.one (q := 2) (vflag_R gp gr gb cb sb b hcb hbl) (by decide) (show o + 2 + 1 ≤ _ by omega) (At.cast (hat.trans (At.sub _ 2 1)) rfl)) ?_
  rintro _ w4 ⟨us, i1, e1, HS⟩
  replace HS := HS.join1
  have H4 := HS.H.here
  refine ops_nil ?_
  refine nR85 ?_
  refine run_seq ?_
  refine run_region ?_
  refine ops_val (ex_move rfl) ?_
  refine ops_val (ex_move rfl) ?_
  refine ops_val (ex_nilCheck rfl) ?_
  refine nO85 ?_
  refine ops_val (ex_fieldAddr fl31_3 rfl) ?_
  refine ops_call (ex_call gf47 rfl) (HS.one (q := 3) (vtext_R gp gr gb cb sb b hcb hbl) (by decide) (show o + 3 + 1 ≤ _ by omega) (At.cast (hat.trans (At.sub _ 3 1)) rfl)) ?_
  rintro _ w5 ⟨us, i1, e1, HS⟩
  replace HS := HS.join1
  have H5 := HS.H.here
  refine ops_nil ?_
  refine nR85 ?_
  refine run_seq ?_
  refine run_region ?_
  refine ops_val (ex_move rfl) ?_
  refine ops_val (ex_move rfl) ?_
  refine ops_val (ex_nilCheck rfl) ?_
  refine nO85 ?_
  refine ops_val (ex_fieldAddr fl31_4 rfl) ?_
  refine ops_call (ex_call gf47 rfl) (HS.one (q := 4) (vtext_R gp gr gb cb sb b hcb hbl) (by decide) (show o + 4 + 1 ≤ _ by omega) (At.cast (hat.trans (At.sub _ 4 1)) rfl)) ?_
  rintro _ w6 ⟨us, i1, e1, HS⟩
  replace HS := HS.join1
  have H6 := HS.H.here
  refine ops_nil ?_
  refine nR85 ?_
  refine run_seq ?_
  refine run_region ?_
  refine ops_val (ex_move rfl) ?_
  refine ops_val (ex_move rfl) ?_
  refine ops_val (ex_nilCheck rfl) ?_
  refine nO85 ?_
  refine ops_val (ex_fieldAddr fl31_5 rfl) ?_
  refine ops_call (ex_call gf48 rfl) (HS.one (q := 5) (vnum_R gp gr gb cb sb b hcb hbl) (by decide) (show o + 5 + 1 ≤ _ by omega) (At.cast (hat.trans (At.sub _ 5 1)) rfl)) ?_
  rintro _ w7 ⟨us, i1, e1, HS⟩
  replace HS := HS.join1
  have H7 := HS.H.here
  refine ops_nil ?_
  refine nR85 ?_
  refine run_seq ?_
  refine run_region ?_
  refine ops_val (ex_move rfl) ?_
  refine ops_val (ex_move rfl) ?_
  refine ops_val (ex_nilCheck rfl) ?_
  refine nO85 ?_
  refine ops_val (ex_fieldAddr fl31_6 rfl) ?_
  refine ops_call (ex_call gf49 rfl) (HS.one (q := 6) (vlaccount_R gp gr gb cb sb b hcb hbl) (by decide) (show o + 6 + 1 ≤ _ by omega) (At.cast (hat.trans (At.sub _ 6 1)) rfl)) ?_
  rintro _ w8 ⟨us, i1, e1, HS⟩
  have H8 := HS.H.here
  refine ops_nil ?_
  refine nR85 ?_
  refine run_seq ?_
  refine run_region ?_
  refine ops_val (ex_move rfl) ?_
  refine ops_val (ex_move rfl) ?_
  refine ops_val (ex_nilCheck rfl) ?_
  refine nO85 ?_
  refine ops_val (ex_fieldAddr fl31_7 rfl) ?_
  refine ops_call (ex_call gf50 rfl) (HS.one (q := 7) (vlmark_R gp gr gb cb sb b hcb hbl) (by decide) (show o + 7 + 1 ≤ _ by omega) (At.cast (hat.trans (At.sub _ 7 1)) rfl)) ?_
  rintro _ w9 ⟨us, i1, e1, HS⟩
  have H9 := HS.H.here
  refine ops_nil ?_
  refine nR85 ?_
  refine run_seq ?_
  refine run_region ?_
  refine ops_val (ex_move rfl) ?_
  refine ops_val (ex_move rfl) ?_
  refine ops_val (ex_nilCheck rfl) ?_
  refine nO85 ?_
  refine ops_val (ex_fieldAddr fl31_8 rfl) ?_
  refine ops_call (ex_call gf51 rfl) (HS.one (q := 8) (vlwait_R gp gr gb cb sb b hcb hbl) (by decide) (show o + 8 + 1 ≤ _ by omega) (At.cast (hat.trans (At.sub _ 8 1)) rfl)) ?_
  rintro _ w10 ⟨us, i1, e1, HS⟩
  have H10 := HS.H.here
  refine ops_nil ?_
  refine nR85 ?_
  refine run_seq ?_
  refine run_region ?_
  refine ops_val (ex_move rfl) ?_
  refine ops_val (ex_move rfl) ?_
  refine ops_val (ex_nilCheck rfl) ?_
  refine nO85 ?_
  refine ops_val (ex_fieldAddr fl31_9 rfl) ?_
  refine ops_call (ex_call gf52 rfl) (HS.one (q := 9) (vldeal_R gp gr gb cb sb b hcb hbl) (by decide) (show o + 9 + 1 ≤ _ by omega) (At.cast (hat.trans (At.sub _ 9 1)) rfl)) ?_
  rintro _ w11 ⟨us, i1, e1, HS⟩
  have H11 := HS.H.here
  refine ops_nil ?_
  refine nR85 ?_
  refine run_seq ?_
  refine run_region ?_
  refine ops_val (ex_move rfl) ?_
  refine ops_val (ex_move rfl) ?_
  refine ops_val (ex_nilCheck rfl) ?_
  refine nO85 ?_
  refine ops_val (ex_fieldAddr fl31_10 rfl) ?_
  refine ops_call (ex_call gf53 rfl) (HS.one (q := 10) (vlend_R gp gr gb cb sb b hcb hbl) (by decide) (show o + 10 + 1 ≤ _ by omega) (At.cast (hat.trans (At.sub _ 10 1)) rfl)) ?_
  rintro _ w12 ⟨us, i1, e1, HS⟩
  have H12 := HS.H.here
  refine ops_nil ?_
  refine nR85 ?_
  refine run_seq ?_
  refine run_region ?_
  refine ops_val (ex_move rfl) ?_
  refine ops_val (ex_move rfl) ?_
  refine ops_val (ex_nilCheck rfl) ?_
  refine nO85 ?_
  refine ops_val (ex_fieldAddr fl31_11 rfl) ?_
  refine ops_call (ex_call gf54 rfl) (HS.one (q := 11) (vplan_R gp gr gb cb sb b hcb hbl) (by decide) (show o + 11 + 7 ≤ _ by omega) (At.cast (hat.trans (At.sub _ 11 7)) rfl)) ?_
  rintro _ w13 ⟨us, i1, e1, HS⟩
  have H13 := HS.H.here
  refine ops_nil ?_
  refine nR85 ?_
  refine run_seq ?_
  refine run_region ?_
  refine ops_val (ex_move rfl) ?_
  refine ops_val (ex_move rfl) ?_
  refine ops_val (ex_nilCheck rfl) ?_
  refine nO85 ?_
  refine ops_val (ex_fieldAddr fl31_12 rfl) ?_
  refine ops_call (ex_call gf54 rfl) (HS.one (q := 18) (vplan_R gp gr gb cb sb b hcb hbl) (by decide) (show o + 18 + 7 ≤ _ by omega) (At.cast (hat.trans (At.sub _ 18 7)) rfl)) ?_
  rintro _ w14 ⟨us, i1, e1, HS⟩
  replace HS := HS.join
  have H14 := HS.H.here
  refine ops_nil ?_
  refine nR85 ?_
  refine run_seq ?_
  refine run_region ?_
  refine ops_val (ex_move rfl) ?_
  refine ops_val (ex_move rfl) ?_
  refine ops_val (ex_nilCheck rfl) ?_
  refine nO85 ?_
  refine ops_val (ex_fieldAddr fl31_13 rfl) ?_
  refine ops_call (ex_call gf55 rfl) (HS.one (q := 25) (vbytes_R gp gr gb cb sb b hcb hbl) (by decide) (show o + 25 + 1 ≤ _ by omega) (At.cast (hat.trans (At.sub _ 25 1)) rfl)) ?_
  rintro _ w15 ⟨us, i1, e1, HS⟩
  replace HS := HS.join
  have H15 := HS.H.here
  refine ops_nil ?_
  refine nR85 ?_
  refine run_mixZ 11 [(true, 0), (true, 1), (true, 2), (true, 3), (true, 4), (true, 5), (true, 6), (true, 7), (true, 8), (true, 9), (false, 10), (false, 11)] H15 [0, 1, 2, 3] mixed (by decide) (by kernel_rfl) ?_
  rintro w16 hw16
  have H16 := Hp.drew H15; rw [← hw16] at H16
  refine mixz_p rfl ?_
  refine mix1_val (fun wz hz => ex_move rfl) ?_
  refine mixz_p rfl ?_
  refine mix1_val (fun wz hz => ex_move rfl) ?_
  refine mixz_p rfl ?_
  refine mix1_val (fun wz hz => ex_nilCheck rfl) ?_
  refine nZ85 ?_
  refine mixz_p rfl ?_
  refine mix1_val (fun wz hz => ex_fieldAddr fl31_14 rfl) ?_
  refine mixz_p rfl ?_
  refine mix1_val (fun wz hz => ex_move rfl) ?_
  refine mixz_p rfl ?_
  refine mix1_val (fun wz hz => ex_nilCheck rfl) ?_
  refine nZ85 ?_
  refine mixz_p rfl ?_
  refine mix1_val (fun wz hz => ex_fieldAddr fl31_15 rfl) ?_
  refine mixz_p rfl ?_
  refine mix1_val (fun wz hz => ex_move rfl) ?_
  refine mixz_p rfl ?_
  refine mix1_val (fun wz hz => ex_nilCheck rfl) ?_
  refine nZ85 ?_
  refine mixz_p rfl ?_
  refine mix1_val (fun wz hz => ex_fieldAddr fl31_16 rfl) ?_
  refine mixz_o rfl ?_
  refine ops_buildSlice Tryz.underlying130 ty82 H16 rfl (by decide) rfl ?_
  intro w17 g17 H17 hg17
  refine ops_nil ?_
  refine ⟨fun hne => H17.pick [0, 1, 2, 3] (by decide), ?_⟩
  refine nZ85 ?_
  refine mixz_o rfl ?_
  refine ops_call (ex_call gf45 rfl) (HS.grp (q := 26) (vnums_R gp gr gb cb sb b hcb hbl) (by decide) H17 (by decide) (show o + 26 + 3 ≤ _ by omega) (At.cast (hat.trans (At.sub _ 26 3)) rfl) rfl rfl) ?_
  rintro _ w18 ⟨us, i1, e1, HS⟩
  replace HS := HS.join
  have H18 := HS.H.here
  refine ops_nil ?_
  refine ⟨fun hne => absurd rfl hne, ?_⟩
  refine nZ85 ?_
  refine mixz_nil ?_
  refine nR85 ?_
  refine run_nil ?_
  refine fin_end0 rfl ?_
  exact HS.out
theorem vstate_R : WalkR Tryz.prog 16 thstateF := vstate_r
end Go.Proofs.YtoeobicpdeklaaaGreat
