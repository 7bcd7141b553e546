/- Walks of layer 2, printed by wip/gen/codec.py. -/
import Derived.Test.YtoeobicpdeklaaaGreatNrm
import Derived.Test.YtoeobicpdeklaaaGreatWireT
namespace Go.Proofs.YtoeobicpdeklaaaGreat
open Go Go.RowKit
set_option linter.unusedVariables false
attribute [local irreducible] Still Ops Does Cd
set_option maxRecDepth 100000 in
set_option maxHeartbeats 4000000 in
theorem pop_w (gp : Nat) (g : Option Nat) (cap : Nat) (sp : List Value) (st : WS) (a : Addr) (x : thop.X) (vs : List Value) (w0 : World) (H0 : Hp w0 w0 (bl (pw gp g cap sp st)) (pw gp g cap sp st)) (hP : POk 65536 g cap sp st) (hM : thop.M w0 (fun b => b ∉ bl (pw gp g cap sp st)) x vs) (hC : Cl w0 (bl (pw gp g cap sp st)) a vs) (htw : false = true → Thawed w0 a) :
    Does Tryz.prog 73 #[.pointer (some ⟨gp, 0, none⟩), .pointer (some a)] w0 (fun _ w' => PwOut gp (wAll (thop.fl x) st) w0 (bl (pw gp g cap sp st)) w') := by
  refine does_of Tryz.func73 Tryz.ntmps73 rfl ?_
  refine nR31 ?_
  have HS : WSt false gp a w0 (bl (pw gp g cap sp st)) w0 st thop x vs g cap sp := ⟨H0, hP, hM, hC, fun h => ⟨htw h, by have hl := thop.len hM; change vs.length = 6 at hl; omega⟩⟩
  have H := HS.H.here
  refine run_seq ?_
  refine run_region ?_
  refine ops_val (ex_move rfl) ?_
  refine ops_val (ex_move rfl) ?_
  refine ops_val (ex_nilCheck rfl) ?_
  refine nO31 ?_
  refine ops_val (ex_fieldAddrA fl60_0 rfl) ?_
  refine ops_buildSlice Tryz.underlying130 ty82 H rfl (by decide) rfl ?_
  intro w1 g1 H1 hg1
  refine ops_call (ex_call gf29 rfl) (HS.grp (o := 0) pint_W H1 (by decide) (fun _ _ hM => (Th.part hM 0 1)) (At.cast (At.trans (At.self _) (At.sub _ 0 1)) (by decide))) ?_
  rintro _ w2 ⟨g, cap, sp, HS⟩
  have H2 := HS.H.here
  refine ops_nil ?_
  refine nR31 ?_
  refine run_seq ?_
  refine run_mixZ 8 [(true, 0), (true, 1), (true, 2), (true, 3), (true, 4), (true, 5), (true, 6), (false, 7), (false, 8)] H2 [0, 1] mixed (by decide) (by kernel_rfl) ?_
  rintro w3 hw3
  have H3 := Hp.drew H2; rw [← hw3] at H3
  refine mixz_p rfl ?_
  refine mix1_val (fun wz hz => ex_move rfl) ?_
  refine mixz_p rfl ?_
  refine mix1_val (fun wz hz => ex_move rfl) ?_
  refine mixz_p rfl ?_
  refine mix1_val (fun wz hz => ex_nilCheck rfl) ?_
  refine nZ31 ?_
  refine mixz_p rfl ?_
  refine mix1_val (fun wz hz => ex_fieldAddrA fl60_1 rfl) ?_
  refine mixz_p rfl ?_
  refine mix1_val (fun wz hz => ex_move rfl) ?_
  refine mixz_p rfl ?_
  refine mix1_val (fun wz hz => ex_nilCheck rfl) ?_
  refine nZ31 ?_
  refine mixz_p rfl ?_
  refine mix1_val (fun wz hz => ex_fieldAddrA fl60_2 rfl) ?_
  refine mixz_o rfl ?_
  refine ops_buildSlice Tryz.underlying134 ty86 H3 rfl (by decide) rfl ?_
  intro w4 g4 H4 hg4
  refine ops_nil ?_
  refine ⟨fun hne => H4.pick [0, 1] (by decide), ?_⟩
  refine nZ31 ?_
  refine mixz_o rfl ?_
  refine ops_call (ex_call gf31 rfl) (HS.grp (o := 1) ptext_W H4 (by decide) (fun _ _ hM => (Th.part hM 1 2)) (At.cast (At.trans (At.self _) (At.sub _ 1 2)) (by decide))) ?_
  rintro _ w5 ⟨g, cap, sp, HS⟩
  have H5 := HS.H.here
  refine ops_nil ?_
  refine ⟨fun hne => absurd rfl hne, ?_⟩
  refine nZ31 ?_
  refine mixz_nil ?_
  refine nR31 ?_
  refine run_mixZ 11 [(true, 0), (true, 1), (true, 2), (true, 3), (true, 4), (true, 5), (true, 6), (true, 7), (true, 8), (true, 9), (false, 10), (false, 11)] H5 [0, 1] mixed (by decide) (by kernel_rfl) ?_
  rintro w6 hw6
  have H6 := Hp.drew H5; rw [← hw6] at H6
  refine mixz_p rfl ?_
  refine mix1_val (fun wz hz => ex_move rfl) ?_
  refine mixz_p rfl ?_
  refine mix1_val (fun wz hz => ex_move rfl) ?_
  refine mixz_p rfl ?_
  refine mix1_val (fun wz hz => ex_nilCheck rfl) ?_
  refine nZ31 ?_
  refine mixz_p rfl ?_
  refine mix1_val (fun wz hz => ex_fieldAddrA fl60_3 rfl) ?_
  refine mixz_p rfl ?_
  refine mix1_val (fun wz hz => ex_move rfl) ?_
  refine mixz_p rfl ?_
  refine mix1_val (fun wz hz => ex_nilCheck rfl) ?_
  refine nZ31 ?_
  refine mixz_p rfl ?_
  refine mix1_val (fun wz hz => ex_fieldAddrA fl60_4 rfl) ?_
  refine mixz_p rfl ?_
  refine mix1_val (fun wz hz => ex_move rfl) ?_
  refine mixz_p rfl ?_
  refine mix1_val (fun wz hz => ex_nilCheck rfl) ?_
  refine nZ31 ?_
  refine mixz_p rfl ?_
  refine mix1_val (fun wz hz => ex_fieldAddrA fl60_5 rfl) ?_
  refine mixz_o rfl ?_
  refine ops_buildSlice Tryz.underlying130 ty82 H6 rfl (by decide) rfl ?_
  intro w7 g7 H7 hg7
  refine ops_nil ?_
  refine ⟨fun hne => H7.pick [0, 1] (by decide), ?_⟩
  refine nZ31 ?_
  refine mixz_o rfl ?_
  refine ops_call (ex_call gf29 rfl) (HS.grp (o := 3) pint_W H7 (by decide) (fun _ _ hM => (Th.part hM 3 3)) (At.cast (At.trans (At.self _) (At.sub _ 3 3)) (by decide))) ?_
  rintro _ w8 ⟨g, cap, sp, HS⟩
  have H8 := HS.H.here
  refine ops_nil ?_
  refine ⟨fun hne => absurd rfl hne, ?_⟩
  refine nZ31 ?_
  refine mixz_nil ?_
  refine nR31 ?_
  refine run_nil ?_
  refine fin_end0 rfl ?_
  have hw0 : List.take 6 x = x := Th.whole hM
  refine HS.out ?_
  show _ = wAll (x) st
  simp only [List.drop_zero, wAll_part, wAll_append, Nat.reduceAdd, hw0]
theorem pop_W : PenW Tryz.prog 73 thop false := pop_w
set_option maxRecDepth 100000 in
set_option maxHeartbeats 4000000 in
theorem pop_r (gp gr : Nat) (gb : Option Nat) (cb : Nat) (sb : List Value) (b : List UInt8) (hcb : b.length ≤ cb) (hbl : b.length ≤ 65536) (go o i e : Nat) (U : TypeId) (cs : List Value) (w0 : World) (H0 : Hp w0 w0 (bl (pr gp gr gb cb sb b i e ++ [(some go, U, cs)])) (pr gp gr gb cb sb b i e ++ [(some go, U, cs)])) (hi : i ≤ b.length) (hat : At cs o thop.zs) (hfit : o + thop.sz ≤ cs.length) :
    Does Tryz.prog 73 #[.pointer (some ⟨gp, 0, none⟩), .pointer (some ⟨go, o, none⟩)] w0 (fun _ w' => RdOut (pr gp gr gb cb sb b) thop go o U cs b i e w0.heap.size w0 (bl (pr gp gr gb cb sb b i e ++ [(some go, U, cs)])) w') := by
  refine does_of Tryz.func73 Tryz.ntmps73 rfl ?_
  refine nR31 ?_
  change o + 6 ≤ cs.length at hfit
  have HS := RSt.start (R := pr gp gr gb cb sb b) (o := o) H0 hi
  have H := HS.H.here
  refine run_seq ?_
  refine run_region ?_
  refine ops_val (ex_move rfl) ?_
  refine ops_val (ex_move rfl) ?_
  refine ops_val (ex_nilCheck rfl) ?_
  refine nO31 ?_
  refine ops_val (ex_fieldAddr fl60_0 rfl) ?_
  refine ops_buildSlice Tryz.underlying130 ty82 H rfl (by decide) rfl ?_
  intro w1 g1 H1 hg1
  refine ops_call (ex_call gf29 rfl) (HS.grp (q := 0) (pint_R gp gr gb cb sb b hcb hbl) (by decide) H1 (by decide) (show o + 0 + 1 ≤ _ by omega) (At.cast (hat.trans (At.sub _ 0 1)) rfl) rfl rfl) ?_
  rintro _ w2 ⟨us, i1, e1, HS⟩
  replace HS := HS.join1
  have H2 := HS.H.here
  refine ops_nil ?_
  refine nR31 ?_
  refine run_seq ?_
  refine run_mixZ 8 [(true, 0), (true, 1), (true, 2), (true, 3), (true, 4), (true, 5), (true, 6), (false, 7), (false, 8)] H2 [0, 1, 2, 3] mixed (by decide) (by kernel_rfl) ?_
  rintro w3 hw3
  have H3 := Hp.drew H2; rw [← hw3] at H3
  refine mixz_p rfl ?_
  refine mix1_val (fun wz hz => ex_move rfl) ?_
  refine mixz_p rfl ?_
  refine mix1_val (fun wz hz => ex_move rfl) ?_
  refine mixz_p rfl ?_
  refine mix1_val (fun wz hz => ex_nilCheck rfl) ?_
  refine nZ31 ?_
  refine mixz_p rfl ?_
  refine mix1_val (fun wz hz => ex_fieldAddr fl60_1 rfl) ?_
  refine mixz_p rfl ?_
  refine mix1_val (fun wz hz => ex_move rfl) ?_
  refine mixz_p rfl ?_
  refine mix1_val (fun wz hz => ex_nilCheck rfl) ?_
  refine nZ31 ?_
  refine mixz_p rfl ?_
  refine mix1_val (fun wz hz => ex_fieldAddr fl60_2 rfl) ?_
  refine mixz_o rfl ?_
  refine ops_buildSlice Tryz.underlying134 ty86 H3 rfl (by decide) rfl ?_
  intro w4 g4 H4 hg4
  refine ops_nil ?_
  refine ⟨fun hne => H4.pick [0, 1, 2, 3] (by decide), ?_⟩
  refine nZ31 ?_
  refine mixz_o rfl ?_
  refine ops_call (ex_call gf31 rfl) (HS.grp (q := 1) (ptext_R gp gr gb cb sb b hcb hbl) (by decide) H4 (by decide) (show o + 1 + 2 ≤ _ by omega) (At.cast (hat.trans (At.sub _ 1 2)) rfl) rfl rfl) ?_
  rintro _ w5 ⟨us, i1, e1, HS⟩
  replace HS := HS.join1
  have H5 := HS.H.here
  refine ops_nil ?_
  refine ⟨fun hne => absurd rfl hne, ?_⟩
  refine nZ31 ?_
  refine mixz_nil ?_
  refine nR31 ?_
  refine run_mixZ 11 [(true, 0), (true, 1), (true, 2), (true, 3), (true, 4), (true, 5), (true, 6), (true, 7), (true, 8), (true, 9), (false, 10), (false, 11)] H5 [0, 1, 2, 3] mixed (by decide) (by kernel_rfl) ?_
  rintro w6 hw6
  have H6 := Hp.drew H5; rw [← hw6] at H6
  refine mixz_p rfl ?_
  refine mix1_val (fun wz hz => ex_move rfl) ?_
  refine mixz_p rfl ?_
  refine mix1_val (fun wz hz => ex_move rfl) ?_
  refine mixz_p rfl ?_
  refine mix1_val (fun wz hz => ex_nilCheck rfl) ?_
  refine nZ31 ?_
  refine mixz_p rfl ?_
  refine mix1_val (fun wz hz => ex_fieldAddr fl60_3 rfl) ?_
  refine mixz_p rfl ?_
  refine mix1_val (fun wz hz => ex_move rfl) ?_
  refine mixz_p rfl ?_
  refine mix1_val (fun wz hz => ex_nilCheck rfl) ?_
  refine nZ31 ?_
  refine mixz_p rfl ?_
  refine mix1_val (fun wz hz => ex_fieldAddr fl60_4 rfl) ?_
  refine mixz_p rfl ?_
  refine mix1_val (fun wz hz => ex_move rfl) ?_
  refine mixz_p rfl ?_
  refine mix1_val (fun wz hz => ex_nilCheck rfl) ?_
  refine nZ31 ?_
  refine mixz_p rfl ?_
  refine mix1_val (fun wz hz => ex_fieldAddr fl60_5 rfl) ?_
  refine mixz_o rfl ?_
  refine ops_buildSlice Tryz.underlying130 ty82 H6 rfl (by decide) rfl ?_
  intro w7 g7 H7 hg7
  refine ops_nil ?_
  refine ⟨fun hne => H7.pick [0, 1, 2, 3] (by decide), ?_⟩
  refine nZ31 ?_
  refine mixz_o rfl ?_
  refine ops_call (ex_call gf29 rfl) (HS.grp (q := 3) (pint_R gp gr gb cb sb b hcb hbl) (by decide) H7 (by decide) (show o + 3 + 3 ≤ _ by omega) (At.cast (hat.trans (At.sub _ 3 3)) rfl) rfl rfl) ?_
  rintro _ w8 ⟨us, i1, e1, HS⟩
  replace HS := HS.join1
  have H8 := HS.H.here
  refine ops_nil ?_
  refine ⟨fun hne => absurd rfl hne, ?_⟩
  refine nZ31 ?_
  refine mixz_nil ?_
  refine nR31 ?_
  refine run_nil ?_
  refine fin_end0 rfl ?_
  exact HS.out
theorem pop_R : PenR Tryz.prog 73 thop := pop_r
set_option maxRecDepth 100000 in
set_option maxHeartbeats 4000000 in
theorem pplan_w (gp : Nat) (g : Option Nat) (cap : Nat) (sp : List Value) (st : WS) (a : Addr) (x : thplan.X) (vs : List Value) (w0 : World) (H0 : Hp w0 w0 (bl (pw gp g cap sp st)) (pw gp g cap sp st)) (hP : POk 65536 g cap sp st) (hM : thplan.M w0 (fun b => b ∉ bl (pw gp g cap sp st)) x vs) (hC : Cl w0 (bl (pw gp g cap sp st)) a vs) (htw : false = true → Thawed w0 a) :
    Does Tryz.prog 42 #[.pointer (some ⟨gp, 0, none⟩), .pointer (some a)] w0 (fun _ w' => PwOut gp (wAll (thplan.fl x) st) w0 (bl (pw gp g cap sp st)) w') := by
  refine does_of Tryz.func42 Tryz.ntmps42 rfl ?_
  refine nR34 ?_
  have HS : WSt false gp a w0 (bl (pw gp g cap sp st)) w0 st thplan x vs g cap sp := ⟨H0, hP, hM, hC, fun h => ⟨htw h, by have hl := thplan.len hM; change vs.length = 7 at hl; omega⟩⟩
  have H := HS.H.here
  refine run_seq ?_
  refine run_mixZ 11 [(true, 0), (true, 1), (true, 2), (true, 3), (true, 4), (true, 5), (true, 6), (true, 7), (true, 8), (true, 9), (false, 10), (false, 11)] H [0, 1] mixed (by decide) (by kernel_rfl) ?_
  rintro w1 hw1
  have H1 := Hp.drew H; rw [← hw1] at H1
  refine mixz_p rfl ?_
  refine mix1_val (fun wz hz => ex_move rfl) ?_
  refine mixz_p rfl ?_
  refine mix1_val (fun wz hz => ex_move rfl) ?_
  refine mixz_p rfl ?_
  refine mix1_val (fun wz hz => ex_nilCheck rfl) ?_
  refine nZ34 ?_
  refine mixz_p rfl ?_
  refine mix1_val (fun wz hz => ex_fieldAddrA fl28_0 rfl) ?_
  refine mixz_p rfl ?_
  refine mix1_val (fun wz hz => ex_move rfl) ?_
  refine mixz_p rfl ?_
  refine mix1_val (fun wz hz => ex_nilCheck rfl) ?_
  refine nZ34 ?_
  refine mixz_p rfl ?_
  refine mix1_val (fun wz hz => ex_fieldAddrA fl28_1 rfl) ?_
  refine mixz_p rfl ?_
  refine mix1_val (fun wz hz => ex_move rfl) ?_
  refine mixz_p rfl ?_
  refine mix1_val (fun wz hz => ex_nilCheck rfl) ?_
  refine nZ34 ?_
  refine mixz_p rfl ?_
  refine mix1_val (fun wz hz => ex_fieldAddrA fl28_2 rfl) ?_
  refine mixz_o rfl ?_
  refine ops_buildSlice Tryz.underlying130 ty82 H1 rfl (by decide) rfl ?_
  intro w2 g2 H2 hg2
  refine ops_nil ?_
  refine ⟨fun hne => H2.pick [0, 1] (by decide), ?_⟩
  refine nZ34 ?_
  refine mixz_o rfl ?_
  refine ops_call (ex_call gf29 rfl) (HS.grp (o := 0) pint_W H2 (by decide) (fun _ _ hM => (Th.part hM 0 3)) (At.cast (At.trans (At.self _) (At.sub _ 0 3)) (by decide))) ?_
  rintro _ w3 ⟨g, cap, sp, HS⟩
  have H3 := HS.H.here
  refine ops_nil ?_
  refine ⟨fun hne => absurd rfl hne, ?_⟩
  refine nZ34 ?_
  refine mixz_nil ?_
  refine nR34 ?_
  refine run_seq ?_
  refine run_mixZ 8 [(true, 0), (true, 1), (true, 2), (true, 3), (true, 4), (true, 5), (true, 6), (false, 7), (false, 8)] H3 [0, 1] mixed (by decide) (by kernel_rfl) ?_
  rintro w4 hw4
  have H4 := Hp.drew H3; rw [← hw4] at H4
  refine mixz_p rfl ?_
  refine mix1_val (fun wz hz => ex_move rfl) ?_
  refine mixz_p rfl ?_
  refine mix1_val (fun wz hz => ex_move rfl) ?_
  refine mixz_p rfl ?_
  refine mix1_val (fun wz hz => ex_nilCheck rfl) ?_
  refine nZ34 ?_
  refine mixz_p rfl ?_
  refine mix1_val (fun wz hz => ex_fieldAddrA fl28_3 rfl) ?_
  refine mixz_p rfl ?_
  refine mix1_val (fun wz hz => ex_move rfl) ?_
  refine mixz_p rfl ?_
  refine mix1_val (fun wz hz => ex_nilCheck rfl) ?_
  refine nZ34 ?_
  refine mixz_p rfl ?_
  refine mix1_val (fun wz hz => ex_fieldAddrA fl28_4 rfl) ?_
  refine mixz_o rfl ?_
  refine ops_buildSlice Tryz.underlying134 ty86 H4 rfl (by decide) rfl ?_
  intro w5 g5 H5 hg5
  refine ops_nil ?_
  refine ⟨fun hne => H5.pick [0, 1] (by decide), ?_⟩
  refine nZ34 ?_
  refine mixz_o rfl ?_
  refine ops_call (ex_call gf31 rfl) (HS.grp (o := 3) ptext_W H5 (by decide) (fun _ _ hM => (Th.part hM 3 2)) (At.cast (At.trans (At.self _) (At.sub _ 3 2)) (by decide))) ?_
  rintro _ w6 ⟨g, cap, sp, HS⟩
  have H6 := HS.H.here
  refine ops_nil ?_
  refine ⟨fun hne => absurd rfl hne, ?_⟩
  refine nZ34 ?_
  refine mixz_nil ?_
  refine nR34 ?_
  refine run_mixZ 8 [(true, 0), (true, 1), (true, 2), (true, 3), (true, 4), (true, 5), (true, 6), (false, 7), (false, 8)] H6 [0, 1] mixed (by decide) (by kernel_rfl) ?_
  rintro w7 hw7
  have H7 := Hp.drew H6; rw [← hw7] at H7
  refine mixz_p rfl ?_
  refine mix1_val (fun wz hz => ex_move rfl) ?_
  refine mixz_p rfl ?_
  refine mix1_val (fun wz hz => ex_move rfl) ?_
  refine mixz_p rfl ?_
  refine mix1_val (fun wz hz => ex_nilCheck rfl) ?_
  refine nZ34 ?_
  refine mixz_p rfl ?_
  refine mix1_val (fun wz hz => ex_fieldAddrA fl28_5 rfl) ?_
  refine mixz_p rfl ?_
  refine mix1_val (fun wz hz => ex_move rfl) ?_
  refine mixz_p rfl ?_
  refine mix1_val (fun wz hz => ex_nilCheck rfl) ?_
  refine nZ34 ?_
  refine mixz_p rfl ?_
  refine mix1_val (fun wz hz => ex_fieldAddrA fl28_6 rfl) ?_
  refine mixz_o rfl ?_
  refine ops_buildSlice Tryz.underlying130 ty82 H7 rfl (by decide) rfl ?_
  intro w8 g8 H8 hg8
  refine ops_nil ?_
  refine ⟨fun hne => H8.pick [0, 1] (by decide), ?_⟩
  refine nZ34 ?_
  refine mixz_o rfl ?_
  refine ops_call (ex_call gf29 rfl) (HS.grp (o := 5) pint_W H8 (by decide) (fun _ _ hM => (Th.part hM 5 2)) (At.cast (At.trans (At.self _) (At.sub _ 5 2)) (by decide))) ?_
  rintro _ w9 ⟨g, cap, sp, HS⟩
  have H9 := HS.H.here
  refine ops_nil ?_
  refine ⟨fun hne => absurd rfl hne, ?_⟩
  refine nZ34 ?_
  refine mixz_nil ?_
  refine nR34 ?_
  refine run_nil ?_
  refine fin_end0 rfl ?_
  have hw0 : List.take 7 x = x := Th.whole hM
  refine HS.out ?_
  show _ = wAll (x) st
  simp only [List.drop_zero, wAll_part, wAll_append, Nat.reduceAdd, hw0]
theorem pplan_W : PenW Tryz.prog 42 thplan false := pplan_w
set_option maxRecDepth 100000 in
set_option maxHeartbeats 4000000 in
theorem pplan_r (gp gr : Nat) (gb : Option Nat) (cb : Nat) (sb : List Value) (b : List UInt8) (hcb : b.length ≤ cb) (hbl : b.length ≤ 65536) (go o i e : Nat) (U : TypeId) (cs : List Value) (w0 : World) (H0 : Hp w0 w0 (bl (pr gp gr gb cb sb b i e ++ [(some go, U, cs)])) (pr gp gr gb cb sb b i e ++ [(some go, U, cs)])) (hi : i ≤ b.length) (hat : At cs o thplan.zs) (hfit : o + thplan.sz ≤ cs.length) :
    Does Tryz.prog 42 #[.pointer (some ⟨gp, 0, none⟩), .pointer (some ⟨go, o, none⟩)] w0 (fun _ w' => RdOut (pr gp gr gb cb sb b) thplan go o U cs b i e w0.heap.size w0 (bl (pr gp gr gb cb sb b i e ++ [(some go, U, cs)])) w') := by
  refine does_of Tryz.func42 Tryz.ntmps42 rfl ?_
  refine nR34 ?_
  change o + 7 ≤ cs.length at hfit
  have HS := RSt.start (R := pr gp gr gb cb sb b) (o := o) H0 hi
  have H := HS.H.here
  refine run_seq ?_
  refine run_mixZ 11 [(true, 0), (true, 1), (true, 2), (true, 3), (true, 4), (true, 5), (true, 6), (true, 7), (true, 8), (true, 9), (false, 10), (false, 11)] H [0, 1, 2, 3] mixed (by decide) (by kernel_rfl) ?_
  rintro w1 hw1
  have H1 := Hp.drew H; rw [← hw1] at H1
  refine mixz_p rfl ?_
  refine mix1_val (fun wz hz => ex_move rfl) ?_
  refine mixz_p rfl ?_
  refine mix1_val (fun wz hz => ex_move rfl) ?_
  refine mixz_p rfl ?_
  refine mix1_val (fun wz hz => ex_nilCheck rfl) ?_
  refine nZ34 ?_
  refine mixz_p rfl ?_
  refine mix1_val (fun wz hz => ex_fieldAddr fl28_0 rfl) ?_
  refine mixz_p rfl ?_
  refine mix1_val (fun wz hz => ex_move rfl) ?_
  refine mixz_p rfl ?_
  refine mix1_val (fun wz hz => ex_nilCheck rfl) ?_
  refine nZ34 ?_
  refine mixz_p rfl ?_
  refine mix1_val (fun wz hz => ex_fieldAddr fl28_1 rfl) ?_
  refine mixz_p rfl ?_
  refine mix1_val (fun wz hz => ex_move rfl) ?_
  refine mixz_p rfl ?_
  refine mix1_val (fun wz hz => ex_nilCheck rfl) ?_
  refine nZ34 ?_
  refine mixz_p rfl ?_
  refine mix1_val (fun wz hz => ex_fieldAddr fl28_2 rfl) ?_
  refine mixz_o rfl ?_
  refine ops_buildSlice Tryz.underlying130 ty82 H1 rfl (by decide) rfl ?_
  intro w2 g2 H2 hg2
  refine ops_nil ?_
  refine ⟨fun hne => H2.pick [0, 1, 2, 3] (by decide), ?_⟩
  refine nZ34 ?_
  refine mixz_o rfl ?_
  refine ops_call (ex_call gf29 rfl) (HS.grp (q := 0) (pint_R gp gr gb cb sb b hcb hbl) (by decide) H2 (by decide) (show o + 0 + 3 ≤ _ by omega) (At.cast (hat.trans (At.sub _ 0 3)) rfl) rfl rfl) ?_
  rintro _ w3 ⟨us, i1, e1, HS⟩
  replace HS := HS.join1
  have H3 := HS.H.here
  refine ops_nil ?_
  refine ⟨fun hne => absurd rfl hne, ?_⟩
  refine nZ34 ?_
  refine mixz_nil ?_
  refine nR34 ?_
  refine run_seq ?_
  refine run_mixZ 8 [(true, 0), (true, 1), (true, 2), (true, 3), (true, 4), (true, 5), (true, 6), (false, 7), (false, 8)] H3 [0, 1, 2, 3] mixed (by decide) (by kernel_rfl) ?_
  rintro w4 hw4
  have H4 := Hp.drew H3; rw [← hw4] at H4
  refine mixz_p rfl ?_
  refine mix1_val (fun wz hz => ex_move rfl) ?_
  refine mixz_p rfl ?_
  refine mix1_val (fun wz hz => ex_move rfl) ?_
  refine mixz_p rfl ?_
  refine mix1_val (fun wz hz => ex_nilCheck rfl) ?_
  refine nZ34 ?_
  refine mixz_p rfl ?_
  refine mix1_val (fun wz hz => ex_fieldAddr fl28_3 rfl) ?_
  refine mixz_p rfl ?_
  refine mix1_val (fun wz hz => ex_move rfl) ?_
  refine mixz_p rfl ?_
  refine mix1_val (fun wz hz => ex_nilCheck rfl) ?_
  refine nZ34 ?_
  refine mixz_p rfl ?_
  refine mix1_val (fun wz hz => ex_fieldAddr fl28_4 rfl) ?_
  refine mixz_o rfl ?_
  refine ops_buildSlice Tryz.underlying134 ty86 H4 rfl (by decide) rfl ?_
  intro w5 g5 H5 hg5
  refine ops_nil ?_
  refine ⟨fun hne => H5.pick [0, 1, 2, 3] (by decide), ?_⟩
  refine nZ34 ?_
  refine mixz_o rfl ?_
  refine ops_call (ex_call gf31 rfl) (HS.grp (q := 3) (ptext_R gp gr gb cb sb b hcb hbl) (by decide) H5 (by decide) (show o + 3 + 2 ≤ _ by omega) (At.cast (hat.trans (At.sub _ 3 2)) rfl) rfl rfl) ?_
  rintro _ w6 ⟨us, i1, e1, HS⟩
  replace HS := HS.join1
  have H6 := HS.H.here
  refine ops_nil ?_
  refine ⟨fun hne => absurd rfl hne, ?_⟩
  refine nZ34 ?_
  refine mixz_nil ?_
  refine nR34 ?_
  refine run_mixZ 8 [(true, 0), (true, 1), (true, 2), (true, 3), (true, 4), (true, 5), (true, 6), (false, 7), (false, 8)] H6 [0, 1, 2, 3] mixed (by decide) (by kernel_rfl) ?_
  rintro w7 hw7
  have H7 := Hp.drew H6; rw [← hw7] at H7
  refine mixz_p rfl ?_
  refine mix1_val (fun wz hz => ex_move rfl) ?_
  refine mixz_p rfl ?_
  refine mix1_val (fun wz hz => ex_move rfl) ?_
  refine mixz_p rfl ?_
  refine mix1_val (fun wz hz => ex_nilCheck rfl) ?_
  refine nZ34 ?_
  refine mixz_p rfl ?_
  refine mix1_val (fun wz hz => ex_fieldAddr fl28_5 rfl) ?_
  refine mixz_p rfl ?_
  refine mix1_val (fun wz hz => ex_move rfl) ?_
  refine mixz_p rfl ?_
  refine mix1_val (fun wz hz => ex_nilCheck rfl) ?_
  refine nZ34 ?_
  refine mixz_p rfl ?_
  refine mix1_val (fun wz hz => ex_fieldAddr fl28_6 rfl) ?_
  refine mixz_o rfl ?_
  refine ops_buildSlice Tryz.underlying130 ty82 H7 rfl (by decide) rfl ?_
  intro w8 g8 H8 hg8
  refine ops_nil ?_
  refine ⟨fun hne => H8.pick [0, 1, 2, 3] (by decide), ?_⟩
  refine nZ34 ?_
  refine mixz_o rfl ?_
  refine ops_call (ex_call gf29 rfl) (HS.grp (q := 5) (pint_R gp gr gb cb sb b hcb hbl) (by decide) H8 (by decide) (show o + 5 + 2 ≤ _ by omega) (At.cast (hat.trans (At.sub _ 5 2)) rfl) rfl rfl) ?_
  rintro _ w9 ⟨us, i1, e1, HS⟩
  replace HS := HS.join1
  have H9 := HS.H.here
  refine ops_nil ?_
  refine ⟨fun hne => absurd rfl hne, ?_⟩
  refine nZ34 ?_
  refine mixz_nil ?_
  refine nR34 ?_
  refine run_nil ?_
  refine fin_end0 rfl ?_
  exact HS.out
theorem pplan_R : PenR Tryz.prog 42 thplan := pplan_r
set_option maxRecDepth 100000 in
set_option maxHeartbeats 4000000 in
theorem pcommand_w (gp : Nat) (g : Option Nat) (cap : Nat) (sp : List Value) (st : WS) (a : Addr) (x : thcommand.X) (vs : List Value) (w0 : World) (H0 : Hp w0 w0 (bl (pw gp g cap sp st)) (pw gp g cap sp st)) (hP : POk 65536 g cap sp st) (hM : thcommand.M w0 (fun b => b ∉ bl (pw gp g cap sp st)) x vs) (hC : Cl w0 (bl (pw gp g cap sp st)) a vs) (htw : false = true → Thawed w0 a) :
    Does Tryz.prog 60 #[.pointer (some ⟨gp, 0, none⟩), .pointer (some a)] w0 (fun _ w' => PwOut gp (wAll (thcommand.fl x) st) w0 (bl (pw gp g cap sp st)) w') := by
  refine does_of Tryz.func60 Tryz.ntmps60 rfl ?_
  refine nR63 ?_
  have HS : WSt false gp a w0 (bl (pw gp g cap sp st)) w0 st thcommand x vs g cap sp := ⟨H0, hP, hM, hC, fun h => ⟨htw h, by have hl := thcommand.len hM; change vs.length = 25 at hl; omega⟩⟩
  have H := HS.H.here
  refine run_seq ?_
  refine run_mixZ 20 [(true, 0), (true, 1), (true, 2), (true, 3), (true, 4), (true, 5), (true, 6), (true, 7), (true, 8), (true, 9), (true, 10), (true, 11), (true, 12), (true, 13), (true, 14), (true, 15), (true, 16), (true, 17), (true, 18), (false, 19), (false, 20)] H [0, 1] mixed (by decide) (by kernel_rfl) ?_
  rintro w1 hw1
  have H1 := Hp.drew H; rw [← hw1] at H1
  refine mixz_p rfl ?_
  refine mix1_val (fun wz hz => ex_move rfl) ?_
  refine mixz_p rfl ?_
  refine mix1_val (fun wz hz => ex_move rfl) ?_
  refine mixz_p rfl ?_
  refine mix1_val (fun wz hz => ex_nilCheck rfl) ?_
  refine nZ63 ?_
  refine mixz_p rfl ?_
  refine mix1_val (fun wz hz => ex_fieldAddrA fl62_0 rfl) ?_
  refine mixz_p rfl ?_
  refine mix1_val (fun wz hz => ex_move rfl) ?_
  refine mixz_p rfl ?_
  refine mix1_val (fun wz hz => ex_nilCheck rfl) ?_
  refine nZ63 ?_
  refine mixz_p rfl ?_
  refine mix1_val (fun wz hz => ex_fieldAddrA fl62_1 rfl) ?_
  refine mixz_p rfl ?_
  refine mix1_val (fun wz hz => ex_move rfl) ?_
  refine mixz_p rfl ?_
  refine mix1_val (fun wz hz => ex_nilCheck rfl) ?_
  refine nZ63 ?_
  refine mixz_p rfl ?_
  refine mix1_val (fun wz hz => ex_fieldAddrA fl62_2 rfl) ?_
  refine mixz_p rfl ?_
  refine mix1_val (fun wz hz => ex_move rfl) ?_
  refine mixz_p rfl ?_
  refine mix1_val (fun wz hz => ex_nilCheck rfl) ?_
  refine nZ63 ?_
  refine mixz_p rfl ?_
  refine mix1_val (fun wz hz => ex_fieldAddrA fl62_3 rfl) ?_
  refine mixz_p rfl ?_
  refine mix1_val (fun wz hz => ex_move rfl) ?_
  refine mixz_p rfl ?_
  refine mix1_val (fun wz hz => ex_nilCheck rfl) ?_
  refine nZ63 ?_
  refine mixz_p rfl ?_
  refine mix1_val (fun wz hz => ex_fieldAddrA fl62_4 rfl) ?_
  refine mixz_p rfl ?_
  refine mix1_val (fun wz hz => ex_move rfl) ?_
  refine mixz_p rfl ?_
  refine mix1_val (fun wz hz => ex_nilCheck rfl) ?_
  refine nZ63 ?_
  refine mixz_p rfl ?_
  refine mix1_val (fun wz hz => ex_fieldAddrA fl62_5 rfl) ?_
  refine mixz_o rfl ?_
  refine ops_buildSlice Tryz.underlying130 ty82 H1 rfl (by decide) rfl ?_
  intro w2 g2 H2 hg2
  refine ops_nil ?_
  refine ⟨fun hne => H2.pick [0, 1] (by decide), ?_⟩
  refine nZ63 ?_
  refine mixz_o rfl ?_
  refine ops_call (ex_call gf29 rfl) (HS.grp (o := 0) pint_W H2 (by decide) (fun _ _ hM => (Th.part hM 0 6)) (At.cast (At.trans (At.self _) (At.sub _ 0 6)) (by decide))) ?_
  rintro _ w3 ⟨g, cap, sp, HS⟩
  have H3 := HS.H.here
  refine ops_nil ?_
  refine ⟨fun hne => absurd rfl hne, ?_⟩
  refine nZ63 ?_
  refine mixz_nil ?_
  refine nR63 ?_
  refine run_seq ?_
  refine run_region ?_
  refine ops_val (ex_move rfl) ?_
  refine ops_val (ex_move rfl) ?_
  refine ops_val (ex_nilCheck rfl) ?_
  refine nO63 ?_
  refine ops_val (ex_fieldAddrA fl62_6 rfl) ?_
  refine ops_buildSlice Tryz.underlying134 ty86 H3 rfl (by decide) rfl ?_
  intro w4 g4 H4 hg4
  refine ops_call (ex_call gf31 rfl) (HS.grp (o := 6) ptext_W H4 (by decide) (fun _ _ hM => (Th.part hM 6 1)) (At.cast (At.trans (At.self _) (At.sub _ 6 1)) (by decide))) ?_
  rintro _ w5 ⟨g, cap, sp, HS⟩
  have H5 := HS.H.here
  refine ops_nil ?_
  refine nR63 ?_
  refine run_seq ?_
  refine run_mixZ 11 [(true, 0), (true, 1), (true, 2), (true, 3), (true, 4), (true, 5), (true, 6), (true, 7), (true, 8), (true, 9), (false, 10), (false, 11)] H5 [0, 1] mixed (by decide) (by kernel_rfl) ?_
  rintro w6 hw6
  have H6 := Hp.drew H5; rw [← hw6] at H6
  refine mixz_p rfl ?_
  refine mix1_val (fun wz hz => ex_move rfl) ?_
  refine mixz_p rfl ?_
  refine mix1_val (fun wz hz => ex_move rfl) ?_
  refine mixz_p rfl ?_
  refine mix1_val (fun wz hz => ex_nilCheck rfl) ?_
  refine nZ63 ?_
  refine mixz_p rfl ?_
  refine mix1_val (fun wz hz => ex_fieldAddrA fl62_7 rfl) ?_
  refine mixz_p rfl ?_
  refine mix1_val (fun wz hz => ex_move rfl) ?_
  refine mixz_p rfl ?_
  refine mix1_val (fun wz hz => ex_nilCheck rfl) ?_
  refine nZ63 ?_
  refine mixz_p rfl ?_
  refine mix1_val (fun wz hz => ex_fieldAddrA fl62_8 rfl) ?_
  refine mixz_p rfl ?_
  refine mix1_val (fun wz hz => ex_move rfl) ?_
  refine mixz_p rfl ?_
  refine mix1_val (fun wz hz => ex_nilCheck rfl) ?_
  refine nZ63 ?_
  refine mixz_p rfl ?_
  refine mix1_val (fun wz hz => ex_fieldAddrA fl62_9 rfl) ?_
  refine mixz_o rfl ?_
  refine ops_buildSlice Tryz.underlying130 ty82 H6 rfl (by decide) rfl ?_
  intro w7 g7 H7 hg7
  refine ops_nil ?_
  refine ⟨fun hne => H7.pick [0, 1] (by decide), ?_⟩
  refine nZ63 ?_
  refine mixz_o rfl ?_
  refine ops_call (ex_call gf29 rfl) (HS.grp (o := 7) pint_W H7 (by decide) (fun _ _ hM => (Th.part hM 7 3)) (At.cast (At.trans (At.self _) (At.sub _ 7 3)) (by decide))) ?_
  rintro _ w8 ⟨g, cap, sp, HS⟩
  have H8 := HS.H.here
  refine ops_nil ?_
  refine ⟨fun hne => absurd rfl hne, ?_⟩
  refine nZ63 ?_
  refine mixz_nil ?_
  refine nR63 ?_
  refine run_seq ?_
  refine run_region ?_
  refine ops_val (ex_move rfl) ?_
  refine ops_val (ex_move rfl) ?_
  refine ops_val (ex_nilCheck rfl) ?_
  refine nO63 ?_
  refine ops_val (ex_fieldAddrA fl62_10 rfl) ?_
  refine ops_call (ex_call gf30 rfl) (HS.one (o := 10) pflag_W (by decide) (fun _ _ hM => (Th.part hM 10 1)) (At.cast (At.trans (At.self _) (At.sub _ 10 1)) (by decide))) ?_
  rintro _ w9 ⟨g, cap, sp, HS⟩
  have H9 := HS.H.here
  refine ops_nil ?_
  refine nR63 ?_
  refine run_seq ?_
  refine run_region ?_
  refine ops_val (ex_move rfl) ?_
  refine ops_val (ex_move rfl) ?_
  refine ops_val (ex_nilCheck rfl) ?_
  refine nO63 ?_
  refine ops_val (ex_fieldAddrA fl62_11 rfl) ?_
  refine ops_call (ex_call gf73 rfl) (HS.one (o := 11) pop_W (by decide) (fun _ _ hM => (Th.part hM 11 6)) (At.cast (At.trans (At.self _) (At.sub _ 11 6)) (by decide))) ?_
  rintro _ w10 ⟨g, cap, sp, HS⟩
  have H10 := HS.H.here
  refine ops_nil ?_
  refine nR63 ?_
  refine run_seq ?_
  refine run_region ?_
  refine ops_val (ex_move rfl) ?_
  refine ops_val (ex_move rfl) ?_
  refine ops_val (ex_nilCheck rfl) ?_
  refine nO63 ?_
  refine ops_val (ex_fieldAddrA fl62_12 rfl) ?_
  refine ops_call (ex_call gf42 rfl) (HS.one (o := 17) pplan_W (by decide) (fun _ _ hM => (Th.part hM 17 7)) (At.cast (At.trans (At.self _) (At.sub _ 17 7)) (by decide))) ?_
  rintro _ w11 ⟨g, cap, sp, HS⟩
  have H11 := HS.H.here
  refine ops_nil ?_
  refine nR63 ?_
  refine run_region ?_
  refine ops_val (ex_move rfl) ?_
  refine ops_val (ex_move rfl) ?_
  refine ops_val (ex_nilCheck rfl) ?_
  refine nO63 ?_
  refine ops_val (ex_fieldAddrA fl62_13 rfl) ?_
  refine ops_call (ex_call gf43 rfl) (HS.one (o := 24) pbytes_W (by decide) (fun _ _ hM => (Th.part hM 24 1)) (At.cast (At.trans (At.self _) (At.sub _ 24 1)) (by decide))) ?_
  rintro _ w12 ⟨g, cap, sp, HS⟩
  have H12 := HS.H.here
  refine ops_nil ?_
  refine nR63 ?_
  refine run_nil ?_
  refine fin_end0 rfl ?_
  have hw0 : List.take 25 x = x := Th.whole hM
  refine HS.out ?_
  show _ = wAll (x) st
  simp only [List.drop_zero, wAll_part, wAll_append, Nat.reduceAdd, hw0]
theorem pcommand_W : PenW Tryz.prog 60 thcommand false := pcommand_w
set_option maxRecDepth 100000 in
set_option maxHeartbeats 4000000 in
theorem pcommand_r (gp gr : Nat) (gb : Option Nat) (cb : Nat) (sb : List Value) (b : List UInt8) (hcb : b.length ≤ cb) (hbl : b.length ≤ 65536) (go o i e : Nat) (U : TypeId) (cs : List Value) (w0 : World) (H0 : Hp w0 w0 (bl (pr gp gr gb cb sb b i e ++ [(some go, U, cs)])) (pr gp gr gb cb sb b i e ++ [(some go, U, cs)])) (hi : i ≤ b.length) (hat : At cs o thcommand.zs) (hfit : o + thcommand.sz ≤ cs.length) :
    Does Tryz.prog 60 #[.pointer (some ⟨gp, 0, none⟩), .pointer (some ⟨go, o, none⟩)] w0 (fun _ w' => RdOut (pr gp gr gb cb sb b) thcommand go o U cs b i e w0.heap.size w0 (bl (pr gp gr gb cb sb b i e ++ [(some go, U, cs)])) w') := by
  refine does_of Tryz.func60 Tryz.ntmps60 rfl ?_
  refine nR63 ?_
  change o + 25 ≤ cs.length at hfit
  have HS := RSt.start (R := pr gp gr gb cb sb b) (o := o) H0 hi
  have H := HS.H.here
  refine run_seq ?_
  refine run_mixZ 20 [(true, 0), (true, 1), (true, 2), (true, 3), (true, 4), (true, 5), (true, 6), (true, 7), (true, 8), (true, 9), (true, 10), (true, 11), (true, 12), (true, 13), (true, 14), (true, 15), (true, 16), (true, 17), (true, 18), (false, 19), (false, 20)] H [0, 1, 2, 3] mixed (by decide) (by kernel_rfl) ?_
  rintro w1 hw1
  have H1 := Hp.drew H; rw [← hw1] at H1
  refine mixz_p rfl ?_
  refine mix1_val (fun wz hz => ex_move rfl) ?_
  refine mixz_p rfl ?_
  refine mix1_val (fun wz hz => ex_move rfl) ?_
  refine mixz_p rfl ?_
  refine mix1_val (fun wz hz => ex_nilCheck rfl) ?_
  refine nZ63 ?_
  refine mixz_p rfl ?_
  refine mix1_val (fun wz hz => ex_fieldAddr fl62_0 rfl) ?_
  refine mixz_p rfl ?_
  refine mix1_val (fun wz hz => ex_move rfl) ?_
  refine mixz_p rfl ?_
  refine mix1_val (fun wz hz => ex_nilCheck rfl) ?_
  refine nZ63 ?_
  refine mixz_p rfl ?_
  refine mix1_val (fun wz hz => ex_fieldAddr fl62_1 rfl) ?_
  refine mixz_p rfl ?_
  refine mix1_val (fun wz hz => ex_move rfl) ?_
  refine mixz_p rfl ?_
  refine mix1_val (fun wz hz => ex_nilCheck rfl) ?_
  refine nZ63 ?_
  refine mixz_p rfl ?_
  refine mix1_val (fun wz hz => ex_fieldAddr fl62_2 rfl) ?_
  refine mixz_p rfl ?_
  refine mix1_val (fun wz hz => ex_move rfl) ?_
  refine mixz_p rfl ?_
  refine mix1_val (fun wz hz => ex_nilCheck rfl) ?_
  refine nZ63 ?_
  refine mixz_p rfl ?_
  refine mix1_val (fun wz hz => ex_fieldAddr fl62_3 rfl) ?_
  refine mixz_p rfl ?_
  refine mix1_val (fun wz hz => ex_move rfl) ?_
  refine mixz_p rfl ?_
  refine mix1_val (fun wz hz => ex_nilCheck rfl) ?_
  refine nZ63 ?_
  refine mixz_p rfl ?_
  refine mix1_val (fun wz hz => ex_fieldAddr fl62_4 rfl) ?_
  refine mixz_p rfl ?_
  refine mix1_val (fun wz hz => ex_move rfl) ?_
  refine mixz_p rfl ?_
  refine mix1_val (fun wz hz => ex_nilCheck rfl) ?_
  refine nZ63 ?_
  refine mixz_p rfl ?_
  refine mix1_val (fun wz hz => ex_fieldAddr fl62_5 rfl) ?_
  refine mixz_o rfl ?_
  refine ops_buildSlice Tryz.underlying130 ty82 H1 rfl (by decide) rfl ?_
  intro w2 g2 H2 hg2
  refine ops_nil ?_
  refine ⟨fun hne => H2.pick [0, 1, 2, 3] (by decide), ?_⟩
  refine nZ63 ?_
  refine mixz_o rfl ?_
  refine ops_call (ex_call gf29 rfl) (HS.grp (q := 0) (pint_R gp gr gb cb sb b hcb hbl) (by decide) H2 (by decide) (show o + 0 + 6 ≤ _ by omega) (At.cast (hat.trans (At.sub _ 0 6)) rfl) rfl rfl) ?_
  rintro _ w3 ⟨us, i1, e1, HS⟩
  replace HS := HS.join1
  have H3 := HS.H.here
  refine ops_nil ?_
  refine ⟨fun hne => absurd rfl hne, ?_⟩
  refine nZ63 ?_
  refine mixz_nil ?_
  refine nR63 ?_
  refine run_seq ?_
  refine run_region ?_
  refine ops_val (ex_move rfl) ?_
  refine ops_val (ex_move rfl) ?_
  refine ops_val (ex_nilCheck rfl) ?_
  refine nO63 ?_
  refine ops_val (ex_fieldAddr fl62_6 rfl) ?_
  refine ops_buildSlice Tryz.underlying134 ty86 H3 rfl (by decide) rfl ?_
  intro w4 g4 H4 hg4
  refine ops_call (ex_call gf31 rfl) (HS.grp (q := 6) (ptext_R gp gr gb cb sb b hcb hbl) (by decide) H4 (by decide) (show o + 6 + 1 ≤ _ by omega) (At.cast (hat.trans (At.sub _ 6 1)) rfl) rfl rfl) ?_
  rintro _ w5 ⟨us, i1, e1, HS⟩
  replace HS := HS.join1
  have H5 := HS.H.here
  refine ops_nil ?_
  refine nR63 ?_
  refine run_seq ?_
  refine run_mixZ 11 [(true, 0), (true, 1), (true, 2), (true, 3), (true, 4), (true, 5), (true, 6), (true, 7), (true, 8), (true, 9), (false, 10), (false, 11)] H5 [0, 1, 2, 3] mixed (by decide) (by kernel_rfl) ?_
  rintro w6 hw6
  have H6 := Hp.drew H5; rw [← hw6] at H6
  refine mixz_p rfl ?_
  refine mix1_val (fun wz hz => ex_move rfl) ?_
  refine mixz_p rfl ?_
  refine mix1_val (fun wz hz => ex_move rfl) ?_
  refine mixz_p rfl ?_
  refine mix1_val (fun wz hz => ex_nilCheck rfl) ?_
  refine nZ63 ?_
  refine mixz_p rfl ?_
  refine mix1_val (fun wz hz => ex_fieldAddr fl62_7 rfl) ?_
  refine mixz_p rfl ?_
  refine mix1_val (fun wz hz => ex_move rfl) ?_
  refine mixz_p rfl ?_
  refine mix1_val (fun wz hz => ex_nilCheck rfl) ?_
  refine nZ63 ?_
  refine mixz_p rfl ?_
  refine mix1_val (fun wz hz => ex_fieldAddr fl62_8 rfl) ?_
  refine mixz_p rfl ?_
  refine mix1_val (fun wz hz => ex_move rfl) ?_
  refine mixz_p rfl ?_
  refine mix1_val (fun wz hz => ex_nilCheck rfl) ?_
  refine nZ63 ?_
  refine mixz_p rfl ?_
  refine mix1_val (fun wz hz => ex_fieldAddr fl62_9 rfl) ?_
  refine mixz_o rfl ?_
  refine ops_buildSlice Tryz.underlying130 ty82 H6 rfl (by decide) rfl ?_
  intro w7 g7 H7 hg7
  refine ops_nil ?_
  refine ⟨fun hne => H7.pick [0, 1, 2, 3] (by decide), ?_⟩
  refine nZ63 ?_
  refine mixz_o rfl ?_
  refine ops_call (ex_call gf29 rfl) (HS.grp (q := 7) (pint_R gp gr gb cb sb b hcb hbl) (by decide) H7 (by decide) (show o + 7 + 3 ≤ _ by omega) (At.cast (hat.trans (At.sub _ 7 3)) rfl) rfl rfl) ?_
  rintro _ w8 ⟨us, i1, e1, HS⟩
  replace HS := HS.join1
  have H8 := HS.H.here
  refine ops_nil ?_
  refine ⟨fun hne => absurd rfl hne, ?_⟩
  refine nZ63 ?_
  refine mixz_nil ?_
  refine nR63 ?_
  refine run_seq ?_
  refine run_region ?_
  refine ops_val (ex_move rfl) ?_
  refine ops_val (ex_move rfl) ?_
  refine ops_val (ex_nilCheck rfl) ?_
  refine nO63 ?_
  refine ops_val (ex_fieldAddr fl62_10 rfl) ?_
  refine ops_call (ex_call gf30 rfl) (HS.one (q := 10) (pflag_R gp gr gb cb sb b hcb hbl) (by decide) (show o + 10 + 1 ≤ _ by omega) (At.cast (hat.trans (At.sub _ 10 1)) rfl)) ?_
  rintro _ w9 ⟨us, i1, e1, HS⟩
  replace HS := HS.join1
  have H9 := HS.H.here
  refine ops_nil ?_
  refine nR63 ?_
  refine run_seq ?_
  refine run_region ?_
  refine ops_val (ex_move rfl) ?_
  refine ops_val (ex_move rfl) ?_
  refine ops_val (ex_nilCheck rfl) ?_
  refine nO63 ?_
  refine ops_val (ex_fieldAddr fl62_11 rfl) ?_
  refine ops_call (ex_call gf73 rfl) (HS.one (q := 11) (pop_R gp gr gb cb sb b hcb hbl) (by decide) (show o + 11 + 6 ≤ _ by omega) (At.cast (hat.trans (At.sub _ 11 6)) rfl)) ?_
  rintro _ w10 ⟨us, i1, e1, HS⟩
  replace HS := HS.join1
  have H10 := HS.H.here
  refine ops_nil ?_
  refine nR63 ?_
  refine run_seq ?_
  refine run_region ?_
  refine ops_val (ex_move rfl) ?_
  refine ops_val (ex_move rfl) ?_
  refine ops_val (ex_nilCheck rfl) ?_
  refine nO63 ?_
  refine ops_val (ex_fieldAddr fl62_12 rfl) ?_
  refine ops_call (ex_call gf42 rfl) (HS.one (q := 17) (pplan_R gp gr gb cb sb b hcb hbl) (by decide) (show o + 17 + 7 ≤ _ by omega) (At.cast (hat.trans (At.sub _ 17 7)) rfl)) ?_
  rintro _ w11 ⟨us, i1, e1, HS⟩
  replace HS := HS.join1
  have H11 := HS.H.here
  refine ops_nil ?_
  refine nR63 ?_
  refine run_region ?_
  refine ops_val (ex_move rfl) ?_
  refine ops_val (ex_move rfl) ?_
  refine ops_val (ex_nilCheck rfl) ?_
  refine nO63 ?_
  refine ops_val (ex_fieldAddr fl62_13 rfl) ?_
  refine ops_call (ex_call gf43 rfl) (HS.one (q := 24) (pbytes_R gp gr gb cb sb b hcb hbl) (by decide) (show o + 24 + 1 ≤ _ by omega) (At.cast (hat.trans (At.sub _ 24 1)) rfl)) ?_
  rintro _ w12 ⟨us, i1, e1, HS⟩
  replace HS := HS.join1
  have H12 := HS.H.here
  refine ops_nil ?_
  refine nR63 ?_
  refine run_nil ?_
  refine fin_end0 rfl ?_
  exact HS.out
theorem pcommand_R : PenR Tryz.prog 60 thcommand := pcommand_r
set_option maxRecDepth 100000 in
set_option maxHeartbeats 4000000 in
theorem pholder_w (gp : Nat) (g : Option Nat) (cap : Nat) (sp : List Value) (st : WS) (a : Addr) (x : thholder.X) (vs : List Value) (w0 : World) (H0 : Hp w0 w0 (bl (pw gp g cap sp st)) (pw gp g cap sp st)) (hP : POk 65536 g cap sp st) (hM : thholder.M w0 (fun b => b ∉ bl (pw gp g cap sp st)) x vs) (hC : Cl w0 (bl (pw gp g cap sp st)) a vs) (htw : false = true → Thawed w0 a) :
    Does Tryz.prog 71 #[.pointer (some ⟨gp, 0, none⟩), .pointer (some a)] w0 (fun _ w' => PwOut gp (wAll (thholder.fl x) st) w0 (bl (pw gp g cap sp st)) w') := by
  refine does_of Tryz.func71 Tryz.ntmps71 rfl ?_
  refine nR19 ?_
  have HS : WSt false gp a w0 (bl (pw gp g cap sp st)) w0 st thholder x vs g cap sp := ⟨H0, hP, hM, hC, fun h => ⟨htw h, by have hl := thholder.len hM; change vs.length = 4 at hl; omega⟩⟩
  have H := HS.H.here
  refine run_mixZ 14 [(true, 0), (true, 1), (true, 2), (true, 3), (true, 4), (true, 5), (true, 6), (true, 7), (true, 8), (true, 9), (true, 10), (true, 11), (true, 12), (false, 13), (false, 14)] H [0, 1] mixed (by decide) (by kernel_rfl) ?_
  rintro w1 hw1
  have H1 := Hp.drew H; rw [← hw1] at H1
  refine mixz_p rfl ?_
  refine mix1_val (fun wz hz => ex_move rfl) ?_
  refine mixz_p rfl ?_
  refine mix1_val (fun wz hz => ex_move rfl) ?_
  refine mixz_p rfl ?_
  refine mix1_val (fun wz hz => ex_nilCheck rfl) ?_
  refine nZ19 ?_
  refine mixz_p rfl ?_
  refine mix1_val (fun wz hz => ex_fieldAddrA fl141_0 rfl) ?_
  refine mixz_p rfl ?_
  refine mix1_val (fun wz hz => ex_move rfl) ?_
  refine mixz_p rfl ?_
  refine mix1_val (fun wz hz => ex_nilCheck rfl) ?_
  refine nZ19 ?_
  refine mixz_p rfl ?_
  refine mix1_val (fun wz hz => ex_fieldAddrA fl141_1 rfl) ?_
  refine mixz_p rfl ?_
  refine mix1_val (fun wz hz => ex_move rfl) ?_
  refine mixz_p rfl ?_
  refine mix1_val (fun wz hz => ex_nilCheck rfl) ?_
  refine nZ19 ?_
  refine mixz_p rfl ?_
  refine mix1_val (fun wz hz => ex_fieldAddrA fl141_2 rfl) ?_
  refine mixz_p rfl ?_
  refine mix1_val (fun wz hz => ex_move rfl) ?_
  refine mixz_p rfl ?_
  refine mix1_val (fun wz hz => ex_nilCheck rfl) ?_
  refine nZ19 ?_
  refine mixz_p rfl ?_
  refine mix1_val (fun wz hz => ex_fieldAddrA fl141_3 rfl) ?_
  refine mixz_o rfl ?_
  refine ops_buildSlice Tryz.underlying130 ty82 H1 rfl (by decide) rfl ?_
  intro w2 g2 H2 hg2
  refine ops_nil ?_
  refine ⟨fun hne => H2.pick [0, 1] (by decide), ?_⟩
  refine nZ19 ?_
  refine mixz_o rfl ?_
  refine ops_call (ex_call gf29 rfl) (HS.grp (o := 0) pint_W H2 (by decide) (fun _ _ hM => (Th.part hM 0 4)) (At.cast (At.trans (At.self _) (At.sub _ 0 4)) (by decide))) ?_
  rintro _ w3 ⟨g, cap, sp, HS⟩
  have H3 := HS.H.here
  refine ops_nil ?_
  refine ⟨fun hne => absurd rfl hne, ?_⟩
  refine nZ19 ?_
  refine mixz_nil ?_
  refine nR19 ?_
  refine run_nil ?_
  refine fin_end0 rfl ?_
  have hw0 : List.take 4 x = x := Th.whole hM
  refine HS.out ?_
  show _ = wAll (x) st
  simp only [List.drop_zero, wAll_part, wAll_append, Nat.reduceAdd, hw0]
theorem pholder_W : PenW Tryz.prog 71 thholder false := pholder_w
set_option maxRecDepth 100000 in
set_option maxHeartbeats 4000000 in
theorem pholder_r (gp gr : Nat) (gb : Option Nat) (cb : Nat) (sb : List Value) (b : List UInt8) (hcb : b.length ≤ cb) (hbl : b.length ≤ 65536) (go o i e : Nat) (U : TypeId) (cs : List Value) (w0 : World) (H0 : Hp w0 w0 (bl (pr gp gr gb cb sb b i e ++ [(some go, U, cs)])) (pr gp gr gb cb sb b i e ++ [(some go, U, cs)])) (hi : i ≤ b.length) (hat : At cs o thholder.zs) (hfit : o + thholder.sz ≤ cs.length) :
    Does Tryz.prog 71 #[.pointer (some ⟨gp, 0, none⟩), .pointer (some ⟨go, o, none⟩)] w0 (fun _ w' => RdOut (pr gp gr gb cb sb b) thholder go o U cs b i e w0.heap.size w0 (bl (pr gp gr gb cb sb b i e ++ [(some go, U, cs)])) w') := by
  refine does_of Tryz.func71 Tryz.ntmps71 rfl ?_
  refine nR19 ?_
  change o + 4 ≤ cs.length at hfit
  have HS := RSt.start (R := pr gp gr gb cb sb b) (o := o) H0 hi
  have H := HS.H.here
  refine run_mixZ 14 [(true, 0), (true, 1), (true, 2), (true, 3), (true, 4), (true, 5), (true, 6), (true, 7), (true, 8), (true, 9), (true, 10), (true, 11), (true, 12), (false, 13), (false, 14)] H [0, 1, 2, 3] mixed (by decide) (by kernel_rfl) ?_
  rintro w1 hw1
  have H1 := Hp.drew H; rw [← hw1] at H1
  refine mixz_p rfl ?_
  refine mix1_val (fun wz hz => ex_move rfl) ?_
  refine mixz_p rfl ?_
  refine mix1_val (fun wz hz => ex_move rfl) ?_
  refine mixz_p rfl ?_
  refine mix1_val (fun wz hz => ex_nilCheck rfl) ?_
  refine nZ19 ?_
  refine mixz_p rfl ?_
  refine mix1_val (fun wz hz => ex_fieldAddr fl141_0 rfl) ?_
  refine mixz_p rfl ?_
  refine mix1_val (fun wz hz => ex_move rfl) ?_
  refine mixz_p rfl ?_
  refine mix1_val (fun wz hz => ex_nilCheck rfl) ?_
  refine nZ19 ?_
  refine mixz_p rfl ?_
  refine mix1_val (fun wz hz => ex_fieldAddr fl141_1 rfl) ?_
  refine mixz_p rfl ?_
  refine mix1_val (fun wz hz => ex_move rfl) ?_
  refine mixz_p rfl ?_
  refine mix1_val (fun wz hz => ex_nilCheck rfl) ?_
  refine nZ19 ?_
  refine mixz_p rfl ?_
  refine mix1_val (fun wz hz => ex_fieldAddr fl141_2 rfl) ?_
  refine mixz_p rfl ?_
  refine mix1_val (fun wz hz => ex_move rfl) ?_
  refine mixz_p rfl ?_
  refine mix1_val (fun wz hz => ex_nilCheck rfl) ?_
  refine nZ19 ?_
  refine mixz_p rfl ?_
  refine mix1_val (fun wz hz => ex_fieldAddr fl141_3 rfl) ?_
  refine mixz_o rfl ?_
  refine ops_buildSlice Tryz.underlying130 ty82 H1 rfl (by decide) rfl ?_
  intro w2 g2 H2 hg2
  refine ops_nil ?_
  refine ⟨fun hne => H2.pick [0, 1, 2, 3] (by decide), ?_⟩
  refine nZ19 ?_
  refine mixz_o rfl ?_
  refine ops_call (ex_call gf29 rfl) (HS.grp (q := 0) (pint_R gp gr gb cb sb b hcb hbl) (by decide) H2 (by decide) (show o + 0 + 4 ≤ _ by omega) (At.cast (hat.trans (At.sub _ 0 4)) rfl) rfl rfl) ?_
  rintro _ w3 ⟨us, i1, e1, HS⟩
  replace HS := HS.join1
  have H3 := HS.H.here
  refine ops_nil ?_
  refine ⟨fun hne => absurd rfl hne, ?_⟩
  refine nZ19 ?_
  refine mixz_nil ?_
  refine nR19 ?_
  refine run_nil ?_
  refine fin_end0 rfl ?_
  exact HS.out
theorem pholder_R : PenR Tryz.prog 71 thholder := pholder_r
set_option maxRecDepth 100000 in
set_option maxHeartbeats 4000000 in
theorem pwait_w (gp : Nat) (g : Option Nat) (cap : Nat) (sp : List Value) (st : WS) (a : Addr) (x : thwait.X) (vs : List Value) (w0 : World) (H0 : Hp w0 w0 (bl (pw gp g cap sp st)) (pw gp g cap sp st)) (hP : POk 65536 g cap sp st) (hM : thwait.M w0 (fun b => b ∉ bl (pw gp g cap sp st)) x vs) (hC : Cl w0 (bl (pw gp g cap sp st)) a vs) (htw : false = true → Thawed w0 a) :
    Does Tryz.prog 37 #[.pointer (some ⟨gp, 0, none⟩), .pointer (some a)] w0 (fun _ w' => PwOut gp (wAll (thwait.fl x) st) w0 (bl (pw gp g cap sp st)) w') := by
  refine does_of Tryz.func37 Tryz.ntmps37 rfl ?_
  refine nR27 ?_
  have HS : WSt false gp a w0 (bl (pw gp g cap sp st)) w0 st thwait x vs g cap sp := ⟨H0, hP, hM, hC, fun h => ⟨htw h, by have hl := thwait.len hM; change vs.length = 11 at hl; omega⟩⟩
  have H := HS.H.here
  refine run_seq ?_
  refine run_mixZ 17 [(true, 0), (true, 1), (true, 2), (true, 3), (true, 4), (true, 5), (true, 6), (true, 7), (true, 8), (true, 9), (true, 10), (true, 11), (true, 12), (true, 13), (true, 14), (true, 15), (false, 16), (false, 17)] H [0, 1] mixed (by decide) (by kernel_rfl) ?_
  rintro w1 hw1
  have H1 := Hp.drew H; rw [← hw1] at H1
  refine mixz_p rfl ?_
  refine mix1_val (fun wz hz => ex_move rfl) ?_
  refine mixz_p rfl ?_
  refine mix1_val (fun wz hz => ex_move rfl) ?_
  refine mixz_p rfl ?_
  refine mix1_val (fun wz hz => ex_nilCheck rfl) ?_
  refine nZ27 ?_
  refine mixz_p rfl ?_
  refine mix1_val (fun wz hz => ex_fieldAddrA fl71_0 rfl) ?_
  refine mixz_p rfl ?_
  refine mix1_val (fun wz hz => ex_move rfl) ?_
  refine mixz_p rfl ?_
  refine mix1_val (fun wz hz => ex_nilCheck rfl) ?_
  refine nZ27 ?_
  refine mixz_p rfl ?_
  refine mix1_val (fun wz hz => ex_fieldAddrA fl71_1 rfl) ?_
  refine mixz_p rfl ?_
  refine mix1_val (fun wz hz => ex_move rfl) ?_
  refine mixz_p rfl ?_
  refine mix1_val (fun wz hz => ex_nilCheck rfl) ?_
  refine nZ27 ?_
  refine mixz_p rfl ?_
  refine mix1_val (fun wz hz => ex_fieldAddrA fl71_2 rfl) ?_
  refine mixz_p rfl ?_
  refine mix1_val (fun wz hz => ex_move rfl) ?_
  refine mixz_p rfl ?_
  refine mix1_val (fun wz hz => ex_nilCheck rfl) ?_
  refine nZ27 ?_
  refine mixz_p rfl ?_
  refine mix1_val (fun wz hz => ex_fieldAddrA fl71_3 rfl) ?_
  refine mixz_p rfl ?_
  refine mix1_val (fun wz hz => ex_move rfl) ?_
  refine mixz_p rfl ?_
  refine mix1_val (fun wz hz => ex_nilCheck rfl) ?_
  refine nZ27 ?_
  refine mixz_p rfl ?_
  refine mix1_val (fun wz hz => ex_fieldAddrA fl71_4 rfl) ?_
  refine mixz_o rfl ?_
  refine ops_buildSlice Tryz.underlying130 ty82 H1 rfl (by decide) rfl ?_
  intro w2 g2 H2 hg2
  refine ops_nil ?_
  refine ⟨fun hne => H2.pick [0, 1] (by decide), ?_⟩
  refine nZ27 ?_
  refine mixz_o rfl ?_
  refine ops_call (ex_call gf29 rfl) (HS.grp (o := 0) pint_W H2 (by decide) (fun _ _ hM => (Th.part hM 0 5)) (At.cast (At.trans (At.self _) (At.sub _ 0 5)) (by decide))) ?_
  rintro _ w3 ⟨g, cap, sp, HS⟩
  have H3 := HS.H.here
  refine ops_nil ?_
  refine ⟨fun hne => absurd rfl hne, ?_⟩
  refine nZ27 ?_
  refine mixz_nil ?_
  refine nR27 ?_
  refine run_region ?_
  refine ops_val (ex_move rfl) ?_
  refine ops_val (ex_move rfl) ?_
  refine ops_val (ex_nilCheck rfl) ?_
  refine nO27 ?_
  refine ops_val (ex_fieldAddrA fl71_5 rfl) ?_
  refine ops_call (ex_call gf73 rfl) (HS.one (o := 5) pop_W (by decide) (fun _ _ hM => (Th.part hM 5 6)) (At.cast (At.trans (At.self _) (At.sub _ 5 6)) (by decide))) ?_
  rintro _ w4 ⟨g, cap, sp, HS⟩
  have H4 := HS.H.here
  refine ops_nil ?_
  refine nR27 ?_
  refine run_nil ?_
  refine fin_end0 rfl ?_
  have hw0 : List.take 11 x = x := Th.whole hM
  refine HS.out ?_
  show _ = wAll (x) st
  simp only [List.drop_zero, wAll_part, wAll_append, Nat.reduceAdd, hw0]
theorem pwait_W : PenW Tryz.prog 37 thwait false := pwait_w
set_option maxRecDepth 100000 in
set_option maxHeartbeats 4000000 in
theorem pwait_r (gp gr : Nat) (gb : Option Nat) (cb : Nat) (sb : List Value) (b : List UInt8) (hcb : b.length ≤ cb) (hbl : b.length ≤ 65536) (go o i e : Nat) (U : TypeId) (cs : List Value) (w0 : World) (H0 : Hp w0 w0 (bl (pr gp gr gb cb sb b i e ++ [(some go, U, cs)])) (pr gp gr gb cb sb b i e ++ [(some go, U, cs)])) (hi : i ≤ b.length) (hat : At cs o thwait.zs) (hfit : o + thwait.sz ≤ cs.length) :
    Does Tryz.prog 37 #[.pointer (some ⟨gp, 0, none⟩), .pointer (some ⟨go, o, none⟩)] w0 (fun _ w' => RdOut (pr gp gr gb cb sb b) thwait go o U cs b i e w0.heap.size w0 (bl (pr gp gr gb cb sb b i e ++ [(some go, U, cs)])) w') := by
  refine does_of Tryz.func37 Tryz.ntmps37 rfl ?_
  refine nR27 ?_
  change o + 11 ≤ cs.length at hfit
  have HS := RSt.start (R := pr gp gr gb cb sb b) (o := o) H0 hi
  have H := HS.H.here
  refine run_seq ?_
  refine run_mixZ 17 [(true, 0), (true, 1), (true, 2), (true, 3), (true, 4), (true, 5), (true, 6), (true, 7), (true, 8), (true, 9), (true, 10), (true, 11), (true, 12), (true, 13), (true, 14), (true, 15), (false, 16), (false, 17)] H [0, 1, 2, 3] mixed (by decide) (by kernel_rfl) ?_
  rintro w1 hw1
  have H1 := Hp.drew H; rw [← hw1] at H1
  refine mixz_p rfl ?_
  refine mix1_val (fun wz hz => ex_move rfl) ?_
  refine mixz_p rfl ?_
  refine mix1_val (fun wz hz => ex_move rfl) ?_
  refine mixz_p rfl ?_
  refine mix1_val (fun wz hz => ex_nilCheck rfl) ?_
  refine nZ27 ?_
  refine mixz_p rfl ?_
  refine mix1_val (fun wz hz => ex_fieldAddr fl71_0 rfl) ?_
  refine mixz_p rfl ?_
  refine mix1_val (fun wz hz => ex_move rfl) ?_
  refine mixz_p rfl ?_
  refine mix1_val (fun wz hz => ex_nilCheck rfl) ?_
  refine nZ27 ?_
  refine mixz_p rfl ?_
  refine mix1_val (fun wz hz => ex_fieldAddr fl71_1 rfl) ?_
  refine mixz_p rfl ?_
  refine mix1_val (fun wz hz => ex_move rfl) ?_
  refine mixz_p rfl ?_
  refine mix1_val (fun wz hz => ex_nilCheck rfl) ?_
  refine nZ27 ?_
  refine mixz_p rfl ?_
  refine mix1_val (fun wz hz => ex_fieldAddr fl71_2 rfl) ?_
  refine mixz_p rfl ?_
  refine mix1_val (fun wz hz => ex_move rfl) ?_
  refine mixz_p rfl ?_
  refine mix1_val (fun wz hz => ex_nilCheck rfl) ?_
  refine nZ27 ?_
  refine mixz_p rfl ?_
  refine mix1_val (fun wz hz => ex_fieldAddr fl71_3 rfl) ?_
  refine mixz_p rfl ?_
  refine mix1_val (fun wz hz => ex_move rfl) ?_
  refine mixz_p rfl ?_
  refine mix1_val (fun wz hz => ex_nilCheck rfl) ?_
  refine nZ27 ?_
  refine mixz_p rfl ?_
  refine mix1_val (fun wz hz => ex_fieldAddr fl71_4 rfl) ?_
  refine mixz_o rfl ?_
  refine ops_buildSlice Tryz.underlying130 ty82 H1 rfl (by decide) rfl ?_
  intro w2 g2 H2 hg2
  refine ops_nil ?_
  refine ⟨fun hne => H2.pick [0, 1, 2, 3] (by decide), ?_⟩
  refine nZ27 ?_
  refine mixz_o rfl ?_
  refine ops_call (ex_call gf29 rfl) (HS.grp (q := 0) (pint_R gp gr gb cb sb b hcb hbl) (by decide) H2 (by decide) (show o + 0 + 5 ≤ _ by omega) (At.cast (hat.trans (At.sub _ 0 5)) rfl) rfl rfl) ?_
  rintro _ w3 ⟨us, i1, e1, HS⟩
  replace HS := HS.join1
  have H3 := HS.H.here
  refine ops_nil ?_
  refine ⟨fun hne => absurd rfl hne, ?_⟩
  refine nZ27 ?_
  refine mixz_nil ?_
  refine nR27 ?_
  refine run_region ?_
  refine ops_val (ex_move rfl) ?_
  refine ops_val (ex_move rfl) ?_
  refine ops_val (ex_nilCheck rfl) ?_
  refine nO27 ?_
  refine ops_val (ex_fieldAddr fl71_5 rfl) ?_
  refine ops_call (ex_call gf73 rfl) (HS.one (q := 5) (pop_R gp gr gb cb sb b hcb hbl) (by decide) (show o + 5 + 6 ≤ _ by omega) (At.cast (hat.trans (At.sub _ 5 6)) rfl)) ?_
  rintro _ w4 ⟨us, i1, e1, HS⟩
  replace HS := HS.join1
  have H4 := HS.H.here
  refine ops_nil ?_
  refine nR27 ?_
  refine run_nil ?_
  refine fin_end0 rfl ?_
  exact HS.out
theorem pwait_R : PenR Tryz.prog 37 thwait := pwait_r
set_option maxRecDepth 100000 in
set_option maxHeartbeats 4000000 in
theorem pdeal_w (gp : Nat) (g : Option Nat) (cap : Nat) (sp : List Value) (st : WS) (a : Addr) (x : thdeal.X) (vs : List Value) (w0 : World) (H0 : Hp w0 w0 (bl (pw gp g cap sp st)) (pw gp g cap sp st)) (hP : POk 65536 g cap sp st) (hM : thdeal.M w0 (fun b => b ∉ bl (pw gp g cap sp st)) x vs) (hC : Cl w0 (bl (pw gp g cap sp st)) a vs) (htw : false = true → Thawed w0 a) :
    Does Tryz.prog 39 #[.pointer (some ⟨gp, 0, none⟩), .pointer (some a)] w0 (fun _ w' => PwOut gp (wAll (thdeal.fl x) st) w0 (bl (pw gp g cap sp st)) w') := by
  refine does_of Tryz.func39 Tryz.ntmps39 rfl ?_
  refine nR37 ?_
  have HS : WSt false gp a w0 (bl (pw gp g cap sp st)) w0 st thdeal x vs g cap sp := ⟨H0, hP, hM, hC, fun h => ⟨htw h, by have hl := thdeal.len hM; change vs.length = 8 at hl; omega⟩⟩
  have H := HS.H.here
  refine run_seq ?_
  refine run_mixZ 8 [(true, 0), (true, 1), (true, 2), (true, 3), (true, 4), (true, 5), (true, 6), (false, 7), (false, 8)] H [0, 1] mixed (by decide) (by kernel_rfl) ?_
  rintro w1 hw1
  have H1 := Hp.drew H; rw [← hw1] at H1
  refine mixz_p rfl ?_
  refine mix1_val (fun wz hz => ex_move rfl) ?_
  refine mixz_p rfl ?_
  refine mix1_val (fun wz hz => ex_move rfl) ?_
  refine mixz_p rfl ?_
  refine mix1_val (fun wz hz => ex_nilCheck rfl) ?_
  refine nZ37 ?_
  refine mixz_p rfl ?_
  refine mix1_val (fun wz hz => ex_fieldAddrA fl74_0 rfl) ?_
  refine mixz_p rfl ?_
  refine mix1_val (fun wz hz => ex_move rfl) ?_
  refine mixz_p rfl ?_
  refine mix1_val (fun wz hz => ex_nilCheck rfl) ?_
  refine nZ37 ?_
  refine mixz_p rfl ?_
  refine mix1_val (fun wz hz => ex_fieldAddrA fl74_1 rfl) ?_
  refine mixz_o rfl ?_
  refine ops_buildSlice Tryz.underlying130 ty82 H1 rfl (by decide) rfl ?_
  intro w2 g2 H2 hg2
  refine ops_nil ?_
  refine ⟨fun hne => H2.pick [0, 1] (by decide), ?_⟩
  refine nZ37 ?_
  refine mixz_o rfl ?_
  refine ops_call (ex_call gf29 rfl) (HS.grp (o := 0) pint_W H2 (by decide) (fun _ _ hM => (Th.part hM 0 2)) (At.cast (At.trans (At.self _) (At.sub _ 0 2)) (by decide))) ?_
  rintro _ w3 ⟨g, cap, sp, HS⟩
  have H3 := HS.H.here
  refine ops_nil ?_
  refine ⟨fun hne => absurd rfl hne, ?_⟩
  refine nZ37 ?_
  refine mixz_nil ?_
  refine nR37 ?_
  refine run_seq ?_
  refine run_mixZ 8 [(true, 0), (true, 1), (true, 2), (true, 3), (true, 4), (true, 5), (true, 6), (false, 7), (false, 8)] H3 [0, 1] mixed (by decide) (by kernel_rfl) ?_
  rintro w4 hw4
  have H4 := Hp.drew H3; rw [← hw4] at H4
  refine mixz_p rfl ?_
  refine mix1_val (fun wz hz => ex_move rfl) ?_
  refine mixz_p rfl ?_
  refine mix1_val (fun wz hz => ex_move rfl) ?_
  refine mixz_p rfl ?_
  refine mix1_val (fun wz hz => ex_nilCheck rfl) ?_
  refine nZ37 ?_
  refine mixz_p rfl ?_
  refine mix1_val (fun wz hz => ex_fieldAddrA fl74_2 rfl) ?_
  refine mixz_p rfl ?_
  refine mix1_val (fun wz hz => ex_move rfl) ?_
  refine mixz_p rfl ?_
  refine mix1_val (fun wz hz => ex_nilCheck rfl) ?_
  refine nZ37 ?_
  refine mixz_p rfl ?_
  refine mix1_val (fun wz hz => ex_fieldAddrA fl74_3 rfl) ?_
  refine mixz_o rfl ?_
  refine ops_buildSlice Tryz.underlying134 ty86 H4 rfl (by decide) rfl ?_
  intro w5 g5 H5 hg5
  refine ops_nil ?_
  refine ⟨fun hne => H5.pick [0, 1] (by decide), ?_⟩
  refine nZ37 ?_
  refine mixz_o rfl ?_
  refine ops_call (ex_call gf31 rfl) (HS.grp (o := 2) ptext_W H5 (by decide) (fun _ _ hM => (Th.part hM 2 2)) (At.cast (At.trans (At.self _) (At.sub _ 2 2)) (by decide))) ?_
  rintro _ w6 ⟨g, cap, sp, HS⟩
  have H6 := HS.H.here
  refine ops_nil ?_
  refine ⟨fun hne => absurd rfl hne, ?_⟩
  refine nZ37 ?_
  refine mixz_nil ?_
  refine nR37 ?_
  refine run_mixZ 14 [(true, 0), (true, 1), (true, 2), (true, 3), (true, 4), (true, 5), (true, 6), (true, 7), (true, 8), (true, 9), (true, 10), (true, 11), (true, 12), (false, 13), (false, 14)] H6 [0, 1] mixed (by decide) (by kernel_rfl) ?_
  rintro w7 hw7
  have H7 := Hp.drew H6; rw [← hw7] at H7
  refine mixz_p rfl ?_
  refine mix1_val (fun wz hz => ex_move rfl) ?_
  refine mixz_p rfl ?_
  refine mix1_val (fun wz hz => ex_move rfl) ?_
  refine mixz_p rfl ?_
  refine mix1_val (fun wz hz => ex_nilCheck rfl) ?_
  refine nZ37 ?_
  refine mixz_p rfl ?_
  refine mix1_val (fun wz hz => ex_fieldAddrA fl74_4 rfl) ?_
  refine mixz_p rfl ?_
  refine mix1_val (fun wz hz => ex_move rfl) ?_
  refine mixz_p rfl ?_
  refine mix1_val (fun wz hz => ex_nilCheck rfl) ?_
  refine nZ37 ?_
  refine mixz_p rfl ?_
  refine mix1_val (fun wz hz => ex_fieldAddrA fl74_5 rfl) ?_
  refine mixz_p rfl ?_
  refine mix1_val (fun wz hz => ex_move rfl) ?_
  refine mixz_p rfl ?_
  refine mix1_val (fun wz hz => ex_nilCheck rfl) ?_
  refine nZ37 ?_
  refine mixz_p rfl ?_
  refine mix1_val (fun wz hz => ex_fieldAddrA fl74_6 rfl) ?_
  refine mixz_p rfl ?_
  refine mix1_val (fun wz hz => ex_move rfl) ?_
  refine mixz_p rfl ?_
  refine mix1_val (fun wz hz => ex_nilCheck rfl) ?_
  refine nZ37 ?_
  refine mixz_p rfl ?_
  refine mix1_val (fun wz hz => ex_fieldAddrA fl74_7 rfl) ?_
  refine mixz_o rfl ?_
  refine ops_buildSlice Tryz.underlying130 ty82 H7 rfl (by decide) rfl ?_
  intro w8 g8 H8 hg8
  refine ops_nil ?_
  refine ⟨fun hne => H8.pick [0, 1] (by decide), ?_⟩
  refine nZ37 ?_
  refine mixz_o rfl ?_
  refine ops_call (ex_call gf29 rfl) (HS.grp (o := 4) pint_W H8 (by decide) (fun _ _ hM => (Th.part hM 4 4)) (At.cast (At.trans (At.self _) (At.sub _ 4 4)) (by decide))) ?_
  rintro _ w9 ⟨g, cap, sp, HS⟩
  have H9 := HS.H.here
  refine ops_nil ?_
  refine ⟨fun hne => absurd rfl hne, ?_⟩
  refine nZ37 ?_
  refine mixz_nil ?_
  refine nR37 ?_
  refine run_nil ?_
  refine fin_end0 rfl ?_
  have hw0 : List.take 8 x = x := Th.whole hM
  refine HS.out ?_
  show _ = wAll (x) st
  simp only [List.drop_zero, wAll_part, wAll_append, Nat.reduceAdd, hw0]
theorem pdeal_W : PenW Tryz.prog 39 thdeal false := pdeal_w
set_option maxRecDepth 100000 in
set_option maxHeartbeats 4000000 in
theorem pdeal_r (gp gr : Nat) (gb : Option Nat) (cb : Nat) (sb : List Value) (b : List UInt8) (hcb : b.length ≤ cb) (hbl : b.length ≤ 65536) (go o i e : Nat) (U : TypeId) (cs : List Value) (w0 : World) (H0 : Hp w0 w0 (bl (pr gp gr gb cb sb b i e ++ [(some go, U, cs)])) (pr gp gr gb cb sb b i e ++ [(some go, U, cs)])) (hi : i ≤ b.length) (hat : At cs o thdeal.zs) (hfit : o + thdeal.sz ≤ cs.length) :
    Does Tryz.prog 39 #[.pointer (some ⟨gp, 0, none⟩), .pointer (some ⟨go, o, none⟩)] w0 (fun _ w' => RdOut (pr gp gr gb cb sb b) thdeal go o U cs b i e w0.heap.size w0 (bl (pr gp gr gb cb sb b i e ++ [(some go, U, cs)])) w') := by
  refine does_of Tryz.func39 Tryz.ntmps39 rfl ?_
  refine nR37 ?_
  change o + 8 ≤ cs.length at hfit
  have HS := RSt.start (R := pr gp gr gb cb sb b) (o := o) H0 hi
  have H := HS.H.here
  refine run_seq ?_
  refine run_mixZ 8 [(true, 0), (true, 1), (true, 2), (true, 3), (true, 4), (true, 5), (true, 6), (false, 7), (false, 8)] H [0, 1, 2, 3] mixed (by decide) (by kernel_rfl) ?_
  rintro w1 hw1
  have H1 := Hp.drew H; rw [← hw1] at H1
  refine mixz_p rfl ?_
  refine mix1_val (fun wz hz => ex_move rfl) ?_
  refine mixz_p rfl ?_
  refine mix1_val (fun wz hz => ex_move rfl) ?_
  refine mixz_p rfl ?_
  refine mix1_val (fun wz hz => ex_nilCheck rfl) ?_
  refine nZ37 ?_
  refine mixz_p rfl ?_
  refine mix1_val (fun wz hz => ex_fieldAddr fl74_0 rfl) ?_
  refine mixz_p rfl ?_
  refine mix1_val (fun wz hz => ex_move rfl) ?_
  refine mixz_p rfl ?_
  refine mix1_val (fun wz hz => ex_nilCheck rfl) ?_
  refine nZ37 ?_
  refine mixz_p rfl ?_
  refine mix1_val (fun wz hz => ex_fieldAddr fl74_1 rfl) ?_
  refine mixz_o rfl ?_
  refine ops_buildSlice Tryz.underlying130 ty82 H1 rfl (by decide) rfl ?_
  intro w2 g2 H2 hg2
  refine ops_nil ?_
  refine ⟨fun hne => H2.pick [0, 1, 2, 3] (by decide), ?_⟩
  refine nZ37 ?_
  refine mixz_o rfl ?_
  refine ops_call (ex_call gf29 rfl) (HS.grp (q := 0) (pint_R gp gr gb cb sb b hcb hbl) (by decide) H2 (by decide) (show o + 0 + 2 ≤ _ by omega) (At.cast (hat.trans (At.sub _ 0 2)) rfl) rfl rfl) ?_
  rintro _ w3 ⟨us, i1, e1, HS⟩
  replace HS := HS.join1
  have H3 := HS.H.here
  refine ops_nil ?_
  refine ⟨fun hne => absurd rfl hne, ?_⟩
  refine nZ37 ?_
  refine mixz_nil ?_
  refine nR37 ?_
  refine run_seq ?_
  refine run_mixZ 8 [(true, 0), (true, 1), (true, 2), (true, 3), (true, 4), (true, 5), (true, 6), (false, 7), (false, 8)] H3 [0, 1, 2, 3] mixed (by decide) (by kernel_rfl) ?_
  rintro w4 hw4
  have H4 := Hp.drew H3; rw [← hw4] at H4
  refine mixz_p rfl ?_
  refine mix1_val (fun wz hz => ex_move rfl) ?_
  refine mixz_p rfl ?_
  refine mix1_val (fun wz hz => ex_move rfl) ?_
  refine mixz_p rfl ?_
  refine mix1_val (fun wz hz => ex_nilCheck rfl) ?_
  refine nZ37 ?_
  refine mixz_p rfl ?_
  refine mix1_val (fun wz hz => ex_fieldAddr fl74_2 rfl) ?_
  refine mixz_p rfl ?_
  refine mix1_val (fun wz hz => ex_move rfl) ?_
  refine mixz_p rfl ?_
  refine mix1_val (fun wz hz => ex_nilCheck rfl) ?_
  refine nZ37 ?_
  refine mixz_p rfl ?_
  refine mix1_val (fun wz hz => ex_fieldAddr fl74_3 rfl) ?_
  refine mixz_o rfl ?_
  refine ops_buildSlice Tryz.underlying134 ty86 H4 rfl (by decide) rfl ?_
  intro w5 g5 H5 hg5
  refine ops_nil ?_
  refine ⟨fun hne => H5.pick [0, 1, 2, 3] (by decide), ?_⟩
  refine nZ37 ?_
  refine mixz_o rfl ?_
  refine ops_call (ex_call gf31 rfl) (HS.grp (q := 2) (ptext_R gp gr gb cb sb b hcb hbl) (by decide) H5 (by decide) (show o + 2 + 2 ≤ _ by omega) (At.cast (hat.trans (At.sub _ 2 2)) rfl) rfl rfl) ?_
  rintro _ w6 ⟨us, i1, e1, HS⟩
  replace HS := HS.join1
  have H6 := HS.H.here
  refine ops_nil ?_
  refine ⟨fun hne => absurd rfl hne, ?_⟩
  refine nZ37 ?_
  refine mixz_nil ?_
  refine nR37 ?_
  refine run_mixZ 14 [(true, 0), (true, 1), (true, 2), (true, 3), (true, 4), (true, 5), (true, 6), (true, 7), (true, 8), (true, 9), (true, 10), (true, 11), (true, 12), (false, 13), (false, 14)] H6 [0, 1, 2, 3] mixed (by decide) (by kernel_rfl) ?_
  rintro w7 hw7
  have H7 := Hp.drew H6; rw [← hw7] at H7
  refine mixz_p rfl ?_
  refine mix1_val (fun wz hz => ex_move rfl) ?_
  refine mixz_p rfl ?_
  refine mix1_val (fun wz hz => ex_move rfl) ?_
  refine mixz_p rfl ?_
  refine mix1_val (fun wz hz => ex_nilCheck rfl) ?_
  refine nZ37 ?_
  refine mixz_p rfl ?_
  refine mix1_val (fun wz hz => ex_fieldAddr fl74_4 rfl) ?_
  refine mixz_p rfl ?_
  refine mix1_val (fun wz hz => ex_move rfl) ?_
  refine mixz_p rfl ?_
  refine mix1_val (fun wz hz => ex_nilCheck rfl) ?_
  refine nZ37 ?_
  refine mixz_p rfl ?_
  refine mix1_val (fun wz hz => ex_fieldAddr fl74_5 rfl) ?_
  refine mixz_p rfl ?_
  refine mix1_val (fun wz hz => ex_move rfl) ?_
  refine mixz_p rfl ?_
  refine mix1_val (fun wz hz => ex_nilCheck rfl) ?_
  refine nZ37 ?_
  refine mixz_p rfl ?_
  refine mix1_val (fun wz hz => ex_fieldAddr fl74_6 rfl) ?_
  refine mixz_p rfl ?_
  refine mix1_val (fun wz hz => ex_move rfl) ?_
  refine mixz_p rfl ?_
  refine mix1_val (fun wz hz => ex_nilCheck rfl) ?_
  refine nZ37 ?_
  refine mixz_p rfl ?_
  refine mix1_val (fun wz hz => ex_fieldAddr fl74_7 rfl) ?_
  refine mixz_o rfl ?_
  refine ops_buildSlice Tryz.underlying130 ty82 H7 rfl (by decide) rfl ?_
  intro w8 g8 H8 hg8
  refine ops_nil ?_
  refine ⟨fun hne => H8.pick [0, 1, 2, 3] (by decide), ?_⟩
  refine nZ37 ?_
  refine mixz_o rfl ?_
  refine ops_call (ex_call gf29 rfl) (HS.grp (q := 4) (pint_R gp gr gb cb sb b hcb hbl) (by decide) H8 (by decide) (show o + 4 + 4 ≤ _ by omega) (At.cast (hat.trans (At.sub _ 4 4)) rfl) rfl rfl) ?_
  rintro _ w9 ⟨us, i1, e1, HS⟩
  replace HS := HS.join1
  have H9 := HS.H.here
  refine ops_nil ?_
  refine ⟨fun hne => absurd rfl hne, ?_⟩
  refine nZ37 ?_
  refine mixz_nil ?_
  refine nR37 ?_
  refine run_nil ?_
  refine fin_end0 rfl ?_
  exact HS.out
theorem pdeal_R : PenR Tryz.prog 39 thdeal := pdeal_r
set_option maxRecDepth 100000 in
set_option maxHeartbeats 4000000 in
theorem pend_w (gp : Nat) (g : Option Nat) (cap : Nat) (sp : List Value) (st : WS) (a : Addr) (x : thend.X) (vs : List Value) (w0 : World) (H0 : Hp w0 w0 (bl (pw gp g cap sp st)) (pw gp g cap sp st)) (hP : POk 65536 g cap sp st) (hM : thend.M w0 (fun b => b ∉ bl (pw gp g cap sp st)) x vs) (hC : Cl w0 (bl (pw gp g cap sp st)) a vs) (htw : false = true → Thawed w0 a) :
    Does Tryz.prog 41 #[.pointer (some ⟨gp, 0, none⟩), .pointer (some a)] w0 (fun _ w' => PwOut gp (wAll (thend.fl x) st) w0 (bl (pw gp g cap sp st)) w') := by
  refine does_of Tryz.func41 Tryz.ntmps41 rfl ?_
  refine nR13 ?_
  have HS : WSt false gp a w0 (bl (pw gp g cap sp st)) w0 st thend x vs g cap sp := ⟨H0, hP, hM, hC, fun h => ⟨htw h, by have hl := thend.len hM; change vs.length = 2 at hl; omega⟩⟩
  have H := HS.H.here
  refine run_mixZ 8 [(true, 0), (true, 1), (true, 2), (true, 3), (true, 4), (true, 5), (true, 6), (false, 7), (false, 8)] H [0, 1] mixed (by decide) (by kernel_rfl) ?_
  rintro w1 hw1
  have H1 := Hp.drew H; rw [← hw1] at H1
  refine mixz_p rfl ?_
  refine mix1_val (fun wz hz => ex_move rfl) ?_
  refine mixz_p rfl ?_
  refine mix1_val (fun wz hz => ex_move rfl) ?_
  refine mixz_p rfl ?_
  refine mix1_val (fun wz hz => ex_nilCheck rfl) ?_
  refine nZ13 ?_
  refine mixz_p rfl ?_
  refine mix1_val (fun wz hz => ex_fieldAddrA fl77_0 rfl) ?_
  refine mixz_p rfl ?_
  refine mix1_val (fun wz hz => ex_move rfl) ?_
  refine mixz_p rfl ?_
  refine mix1_val (fun wz hz => ex_nilCheck rfl) ?_
  refine nZ13 ?_
  refine mixz_p rfl ?_
  refine mix1_val (fun wz hz => ex_fieldAddrA fl77_1 rfl) ?_
  refine mixz_o rfl ?_
  refine ops_buildSlice Tryz.underlying130 ty82 H1 rfl (by decide) rfl ?_
  intro w2 g2 H2 hg2
  refine ops_nil ?_
  refine ⟨fun hne => H2.pick [0, 1] (by decide), ?_⟩
  refine nZ13 ?_
  refine mixz_o rfl ?_
  refine ops_call (ex_call gf29 rfl) (HS.grp (o := 0) pint_W H2 (by decide) (fun _ _ hM => (Th.part hM 0 2)) (At.cast (At.trans (At.self _) (At.sub _ 0 2)) (by decide))) ?_
  rintro _ w3 ⟨g, cap, sp, HS⟩
  have H3 := HS.H.here
  refine ops_nil ?_
  refine ⟨fun hne => absurd rfl hne, ?_⟩
  refine nZ13 ?_
  refine mixz_nil ?_
  refine nR13 ?_
  refine run_nil ?_
  refine fin_end0 rfl ?_
  have hw0 : List.take 2 x = x := Th.whole hM
  refine HS.out ?_
  show _ = wAll (x) st
  simp only [List.drop_zero, wAll_part, wAll_append, Nat.reduceAdd, hw0]
theorem pend_W : PenW Tryz.prog 41 thend false := pend_w
set_option maxRecDepth 100000 in
set_option maxHeartbeats 4000000 in
theorem pend_r (gp gr : Nat) (gb : Option Nat) (cb : Nat) (sb : List Value) (b : List UInt8) (hcb : b.length ≤ cb) (hbl : b.length ≤ 65536) (go o i e : Nat) (U : TypeId) (cs : List Value) (w0 : World) (H0 : Hp w0 w0 (bl (pr gp gr gb cb sb b i e ++ [(some go, U, cs)])) (pr gp gr gb cb sb b i e ++ [(some go, U, cs)])) (hi : i ≤ b.length) (hat : At cs o thend.zs) (hfit : o + thend.sz ≤ cs.length) :
    Does Tryz.prog 41 #[.pointer (some ⟨gp, 0, none⟩), .pointer (some ⟨go, o, none⟩)] w0 (fun _ w' => RdOut (pr gp gr gb cb sb b) thend go o U cs b i e w0.heap.size w0 (bl (pr gp gr gb cb sb b i e ++ [(some go, U, cs)])) w') := by
  refine does_of Tryz.func41 Tryz.ntmps41 rfl ?_
  refine nR13 ?_
  change o + 2 ≤ cs.length at hfit
  have HS := RSt.start (R := pr gp gr gb cb sb b) (o := o) H0 hi
  have H := HS.H.here
  refine run_mixZ 8 [(true, 0), (true, 1), (true, 2), (true, 3), (true, 4), (true, 5), (true, 6), (false, 7), (false, 8)] H [0, 1, 2, 3] mixed (by decide) (by kernel_rfl) ?_
  rintro w1 hw1
  have H1 := Hp.drew H; rw [← hw1] at H1
  refine mixz_p rfl ?_
  refine mix1_val (fun wz hz => ex_move rfl) ?_
  refine mixz_p rfl ?_
  refine mix1_val (fun wz hz => ex_move rfl) ?_
  refine mixz_p rfl ?_
  refine mix1_val (fun wz hz => ex_nilCheck rfl) ?_
  refine nZ13 ?_
  refine mixz_p rfl ?_
  refine mix1_val (fun wz hz => ex_fieldAddr fl77_0 rfl) ?_
  refine mixz_p rfl ?_
  refine mix1_val (fun wz hz => ex_move rfl) ?_
  refine mixz_p rfl ?_
  refine mix1_val (fun wz hz => ex_nilCheck rfl) ?_
  refine nZ13 ?_
  refine mixz_p rfl ?_
  refine mix1_val (fun wz hz => ex_fieldAddr fl77_1 rfl) ?_
  refine mixz_o rfl ?_
  refine ops_buildSlice Tryz.underlying130 ty82 H1 rfl (by decide) rfl ?_
  intro w2 g2 H2 hg2
  refine ops_nil ?_
  refine ⟨fun hne => H2.pick [0, 1, 2, 3] (by decide), ?_⟩
  refine nZ13 ?_
  refine mixz_o rfl ?_
  refine ops_call (ex_call gf29 rfl) (HS.grp (q := 0) (pint_R gp gr gb cb sb b hcb hbl) (by decide) H2 (by decide) (show o + 0 + 2 ≤ _ by omega) (At.cast (hat.trans (At.sub _ 0 2)) rfl) rfl rfl) ?_
  rintro _ w3 ⟨us, i1, e1, HS⟩
  replace HS := HS.join1
  have H3 := HS.H.here
  refine ops_nil ?_
  refine ⟨fun hne => absurd rfl hne, ?_⟩
  refine nZ13 ?_
  refine mixz_nil ?_
  refine nR13 ?_
  refine run_nil ?_
  refine fin_end0 rfl ?_
  exact HS.out
theorem pend_R : PenR Tryz.prog 41 thend := pend_r
end Go.Proofs.YtoeobicpdeklaaaGreat
