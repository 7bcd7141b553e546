/- Walks of layer 2, printed by wip/gen/codec.py. -/
import Derived.Test.YtoeobicpdeklaaaWireM1
import Derived.Test.YtoeobicpdeklaaaWireO
namespace Go.Proofs.Ytoeobicpdeklaaa
open Go Go.RowKit
set_option linter.unusedVariables false
attribute [local irreducible] Still Ops Does Cd
@[reducible] def thchartF : Th := Th.pair (Th.pair (Th.pair (Th.flat [.int]) (Th.many thplace false)) (Th.flat [.int, .int, .int, .int, .int, .text, .text, .int, .int])) (Th.many thmark false)
set_option maxRecDepth 100000 in
set_option maxHeartbeats 4000000 in
theorem vchart_w (gp go o : Nat) (g : Option Nat) (cap : Nat) (sp : List Value) (st : WS) (U : TypeId) (cs : List Value) (x : thchartF.X) (vs : List Value) (w0 : World) (m : Nat) (a : WS) (H0 : Hp w0 w0 (bl (vwo gp g cap sp st go U cs)) (vwo gp g cap sp st go U cs)) (hm : m + thchartF.mx ≤ 1000000000) (hP : POk m g cap sp st) (ha : Alike a st) (hM : thchartF.M w0 (fun b => b ∉ bl (vwo gp g cap sp st go U cs)) x vs) (hat : At cs o vs) :
    Does Try.prog 56 #[.pointer (some ⟨gp, 0, none⟩), .pointer (some ⟨go, o, none⟩)] w0 (fun _ w' => VwOut (m + thchartF.mx) gp (wAll (thchartF.fl x) a) go U cs w0 (bl (vwo gp g cap sp st go U cs)) w') := by
  refine does_of Try.func56 Try.ntmps56 rfl ?_
  change Run _ _ _ _ [.pointer (some ⟨gp, 0, none⟩), .pointer (some ⟨go, o, none⟩), undef, undef, undef, undef, undef, undef, undef, undef, undef, undef, undef, undef, undef, undef, undef, undef, undef, undef, undef, undef, undef, undef, undef, undef, undef, undef, undef, undef, undef, undef, undef] _
  change m + 1573062 ≤ 1000000000 at hm
  have HS : VSt gp go o w0 (bl (vwo gp g cap sp st go U cs)) w0 (m + 0) a st thchartF x vs U cs g cap sp := ⟨H0, hP, ha, hM, hat⟩
  have H := HS.H.here
  refine run_seq ?_
  refine run_region ?_
  refine ops_val (ex_move rfl) ?_
  refine ops_val (ex_move rfl) ?_
  refine ops_val (ex_nilCheck rfl) ?_
  change Ops _ _ _ _ _ _ [_, _, _, _, _, _, _, _, _, _, _, _, _, _, _, _, _, _, _, _, _, _, _, _, _, _, _, _, _, _, _, _, _] _
  refine ops_val (ex_fieldAddr fl59_0 rfl) ?_
  refine ops_call (ex_call gf97 rfl) (HS.one (p := 0) vnum_W (show m + 0 + 65545 ≤ _ by omega) (fun _ _ hM => (Th.part (Th.fst (Th.fst (Th.fst hM))) 0 1)) (At.cast (At.trans (At.of_take (At.of_take (At.of_take (At.self _)))) (At.sub _ 0 1)) (by decide))) ?_
  rintro _ w1 ⟨st, g, cap, sp, HS0⟩
  have HS := VSt.re HS0 (m2 := m + 65545) (by show m + 0 + 65545 = m + 65545; omega)
  have H1 := HS.H.here
  refine ops_nil ?_
  change Run _ _ _ _ [_, _, _, _, _, _, _, _, _, _, _, _, _, _, _, _, _, _, _, _, _, _, _, _, _, _, _, _, _, _, _, _, _] _
  refine run_seq ?_
  refine run_region ?_
  refine ops_val (ex_move rfl) ?_
  refine ops_val (ex_move rfl) ?_
  refine ops_val (ex_nilCheck rfl) ?_
  change Ops _ _ _ _ _ _ [_, _, _, _, _, _, _, _, _, _, _, _, _, _, _, _, _, _, _, _, _, _, _, _, _, _, _, _, _, _, _, _, _] _
  refine ops_val (ex_fieldAddr fl59_1 rfl) ?_
  refine ops_call (ex_call gf98 rfl) (HS.one (p := 1) vlplace_W (show m + 65545 + 327716 ≤ _ by omega) (fun _ _ hM => (Th.snd (Th.fst (Th.fst hM)))) (At.cast (At.of_take (At.of_take (At.drop _ _))) (by decide))) ?_
  rintro _ w2 ⟨st, g, cap, sp, HS0⟩
  have HS := VSt.re HS0 (m2 := m + 393261) (by show m + 65545 + 327716 = m + 393261; omega)
  have H2 := HS.H.here
  refine ops_nil ?_
  change Run _ _ _ _ [_, _, _, _, _, _, _, _, _, _, _, _, _, _, _, _, _, _, _, _, _, _, _, _, _, _, _, _, _, _, _, _, _] _
  refine run_seq ?_
  refine run_mixZ 8 [(true, 0), (true, 1), (true, 2), (true, 3), (true, 4), (true, 5), (true, 6), (false, 7), (false, 8)] H2 [0, 1, 2] mixed (by decide) (by kernel_rfl) ?_
  rintro w3 hw3
  have H3 := Hp.drew H2; rw [← hw3] at H3
  refine mixz_p rfl ?_
  refine mix1_val (fun wz hz => ex_move rfl) ?_
  refine mixz_p rfl ?_
  refine mix1_val (fun wz hz => ex_move rfl) ?_
  refine mixz_p rfl ?_
  refine mix1_val (fun wz hz => ex_nilCheck rfl) ?_
  change MixZ _ _ _ _ _ _ [_, _, _, _, _, _, _, _, _, _, _, _, _, _, _, _, _, _, _, _, _, _, _, _, _, _, _, _, _, _, _, _, _] _
  refine mixz_p rfl ?_
  refine mix1_val (fun wz hz => ex_fieldAddr fl59_2 rfl) ?_
  refine mixz_p rfl ?_
  refine mix1_val (fun wz hz => ex_move rfl) ?_
  refine mixz_p rfl ?_
  refine mix1_val (fun wz hz => ex_nilCheck rfl) ?_
  change MixZ _ _ _ _ _ _ [_, _, _, _, _, _, _, _, _, _, _, _, _, _, _, _, _, _, _, _, _, _, _, _, _, _, _, _, _, _, _, _, _] _
  refine mixz_p rfl ?_
  refine mix1_val (fun wz hz => ex_fieldAddr fl59_3 rfl) ?_
  refine mixz_o rfl ?_
  refine ops_buildSlice Try.underlying177 ty126 H3 rfl (by decide) rfl ?_
  intro w4 g4 H4 hg4
  refine ops_nil ?_
  refine ⟨fun hne => H4.pick [0, 1, 2] (by decide), ?_⟩
  change MixZ _ _ _ _ _ _ [_, _, _, _, _, _, _, _, _, _, _, _, _, _, _, _, _, _, _, _, _, _, _, _, _, _, _, _, _, _, _, _, _] _
  refine mixz_o rfl ?_
  refine ops_call (ex_call gf76 rfl) (HS.grp (p := 2) vnums_W H4 (by decide) (show m + 393261 + 131090 ≤ _ by omega) (fun _ _ hM => (Th.part (Th.snd (Th.fst hM)) 0 2)) (At.cast (At.trans (At.of_take (At.drop _ _)) (At.sub _ 0 2)) (by decide))) ?_
  rintro _ w5 ⟨st, g, cap, sp, HS0⟩
  have HS := VSt.re HS0 (m2 := m + 524351) (by show m + 393261 + 131090 = m + 524351; omega)
  have H5 := HS.H.here
  refine ops_nil ?_
  refine ⟨fun hne => absurd rfl hne, ?_⟩
  change MixZ _ _ _ _ _ _ [_, _, _, _, _, _, _, _, _, _, _, _, _, _, _, _, _, _, _, _, _, _, _, _, _, _, _, _, _, _, _, _, _] _
  refine mixz_nil ?_
  change Run _ _ _ _ [_, _, _, _, _, _, _, _, _, _, _, _, _, _, _, _, _, _, _, _, _, _, _, _, _, _, _, _, _, _, _, _, _] _
  refine run_seq ?_
  refine run_region ?_
  refine ops_val (ex_move rfl) ?_
  refine ops_val (ex_move rfl) ?_
  refine ops_val (ex_nilCheck rfl) ?_
  change Ops _ _ _ _ _ _ [_, _, _, _, _, _, _, _, _, _, _, _, _, _, _, _, _, _, _, _, _, _, _, _, _, _, _, _, _, _, _, _, _] _
  refine ops_val (ex_fieldAddr fl59_4 rfl) ?_
  refine ops_call (ex_call gf80 rfl) (HS.one (p := 4) vplan_W (show m + 524351 + 458815 ≤ _ by omega) (fun _ _ hM => (Th.part (Th.snd (Th.fst hM)) 2 7)) (At.cast (At.trans (At.of_take (At.drop _ _)) (At.sub _ 2 7)) (by decide))) ?_
  rintro _ w6 ⟨st, g, cap, sp, HS0⟩
  have HS := VSt.re HS0 (m2 := m + 983166) (by show m + 524351 + 458815 = m + 983166; omega)
  have H6 := HS.H.here
  refine ops_nil ?_
  change Run _ _ _ _ [_, _, _, _, _, _, _, _, _, _, _, _, _, _, _, _, _, _, _, _, _, _, _, _, _, _, _, _, _, _, _, _, _] _
  refine run_region ?_
  refine ops_val (ex_move rfl) ?_
  refine ops_val (ex_move rfl) ?_
  refine ops_val (ex_nilCheck rfl) ?_
  change Ops _ _ _ _ _ _ [_, _, _, _, _, _, _, _, _, _, _, _, _, _, _, _, _, _, _, _, _, _, _, _, _, _, _, _, _, _, _, _, _] _
  refine ops_val (ex_fieldAddr fl59_5 rfl) ?_
  refine ops_call (ex_call gf99 rfl) (HS.one (p := 11) vlmark_W (show m + 983166 + 589896 ≤ _ by omega) (fun _ _ hM => (Th.snd hM)) (At.cast (At.drop _ _) (by decide))) ?_
  rintro _ w7 ⟨st, g, cap, sp, HS0⟩
  have HS := VSt.re HS0 (m2 := m + 1573062) (by show m + 983166 + 589896 = m + 1573062; omega)
  have H7 := HS.H.here
  refine ops_nil ?_
  change Run _ _ _ _ [_, _, _, _, _, _, _, _, _, _, _, _, _, _, _, _, _, _, _, _, _, _, _, _, _, _, _, _, _, _, _, _, _] _
  refine run_nil ?_
  refine fin_end0 rfl ?_
  have hw0 : List.take 1 x.1.1.1 = x.1.1.1 := Th.whole (Th.fst (Th.fst (Th.fst hM)))
  have hw2 : List.take 9 x.1.2 = x.1.2 := Th.whole (Th.snd (Th.fst hM))
  refine HS.out2 ?_ rfl
  show _ = wAll (x.1.1.1 ++ (Th.many thplace false).fl x.1.1.2 ++ x.1.2 ++ (Th.many thmark false).fl x.2) a
  simp only [List.drop_zero, wAll_part, wAll_append, Nat.reduceAdd, hw0, hw2]
theorem vchart_W : WalkW Try.prog 56 thchartF := vchart_w
set_option maxRecDepth 100000 in
set_option maxHeartbeats 4000000 in
theorem vchart_r (gp gr : Nat) (gb : Option Nat) (cb : Nat) (sb : List Value) (b : List UInt8) (hcb : b.length ≤ cb) (hbl : b.length ≤ 65536) (go o i e : Nat) (U : TypeId) (cs : List Value) (w0 : World) (H0 : Hp w0 w0 (bl (vr gp gr gb cb sb b i e ++ [(some go, U, cs)])) (vr gp gr gb cb sb b i e ++ [(some go, U, cs)])) (hi : i ≤ b.length) (hat : At cs o thchartF.zs) (hfit : o + thchartF.sz ≤ cs.length) :
    Does Try.prog 56 #[.pointer (some ⟨gp, 0, none⟩), .pointer (some ⟨go, o, none⟩)] w0 (fun _ w' => RdOut (vr gp gr gb cb sb b) thchartF go o U cs b i e w0.heap.size w0 (bl (vr gp gr gb cb sb b i e ++ [(some go, U, cs)])) w') := by
  refine does_of Try.func56 Try.ntmps56 rfl ?_
  change Run _ _ _ _ [.pointer (some ⟨gp, 0, none⟩), .pointer (some ⟨go, o, none⟩), undef, undef, undef, undef, undef, undef, undef, undef, undef, undef, undef, undef, undef, undef, undef, undef, undef, undef, undef, undef, undef, undef, undef, undef, undef, undef, undef, undef, undef, undef, undef] _
  change o + 12 ≤ cs.length at hfit
  have HS := RSt.start (R := vr gp gr gb cb sb b) (o := o) H0 hi
  have H := HS.H.here
  refine run_seq ?_
  refine run_region ?_
  refine ops_val (ex_move rfl) ?_
  refine ops_val (ex_move rfl) ?_
  refine ops_val (ex_nilCheck rfl) ?_
  change Ops _ _ _ _ _ _ [_, _, _, _, _, _, _, _, _, _, _, _, _, _, _, _, _, _, _, _, _, _, _, _, _, _, _, _, _, _, _, _, _] _
  refine ops_val (ex_fieldAddr fl59_0 rfl) ?_
  refine ops_call (ex_call gf97 rfl) (HS.one (q := 0) (vnum_R gp gr gb cb sb b hcb hbl) (by decide) (show o + 0 + 1 ≤ _ by omega) (At.cast (hat.trans (At.sub _ 0 1)) rfl)) ?_
  rintro _ w1 ⟨us, i1, e1, HS⟩
  replace HS := HS.join1
  have H1 := HS.H.here
  refine ops_nil ?_
  change Run _ _ _ _ [_, _, _, _, _, _, _, _, _, _, _, _, _, _, _, _, _, _, _, _, _, _, _, _, _, _, _, _, _, _, _, _, _] _
  refine run_seq ?_
  refine run_region ?_
  refine ops_val (ex_move rfl) ?_
  refine ops_val (ex_move rfl) ?_
  refine ops_val (ex_nilCheck rfl) ?_
  change Ops _ _ _ _ _ _ [_, _, _, _, _, _, _, _, _, _, _, _, _, _, _, _, _, _, _, _, _, _, _, _, _, _, _, _, _, _, _, _, _] _
  refine ops_val (ex_fieldAddr fl59_1 rfl) ?_
  refine ops_call (ex_call gf98 rfl) (HS.one (q := 1) (vlplace_R gp gr gb cb sb b hcb hbl) (by decide) (show o + 1 + 1 ≤ _ by omega) (At.cast (hat.trans (At.sub _ 1 1)) rfl)) ?_
  rintro _ w2 ⟨us, i1, e1, HS⟩
  have H2 := HS.H.here
  refine ops_nil ?_
  change Run _ _ _ _ [_, _, _, _, _, _, _, _, _, _, _, _, _, _, _, _, _, _, _, _, _, _, _, _, _, _, _, _, _, _, _, _, _] _
  refine run_seq ?_
  refine run_mixZ 8 [(true, 0), (true, 1), (true, 2), (true, 3), (true, 4), (true, 5), (true, 6), (false, 7), (false, 8)] H2 [0, 1, 2, 3] mixed (by decide) (by kernel_rfl) ?_
  rintro w3 hw3
  have H3 := Hp.drew H2; rw [← hw3] at H3
  refine mixz_p rfl ?_
  refine mix1_val (fun wz hz => ex_move rfl) ?_
  refine mixz_p rfl ?_
  refine mix1_val (fun wz hz => ex_move rfl) ?_
  refine mixz_p rfl ?_
  refine mix1_val (fun wz hz => ex_nilCheck rfl) ?_
  change MixZ _ _ _ _ _ _ [_, _, _, _, _, _, _, _, _, _, _, _, _, _, _, _, _, _, _, _, _, _, _, _, _, _, _, _, _, _, _, _, _] _
  refine mixz_p rfl ?_
  refine mix1_val (fun wz hz => ex_fieldAddr fl59_2 rfl) ?_
  refine mixz_p rfl ?_
  refine mix1_val (fun wz hz => ex_move rfl) ?_
  refine mixz_p rfl ?_
  refine mix1_val (fun wz hz => ex_nilCheck rfl) ?_
  change MixZ _ _ _ _ _ _ [_, _, _, _, _, _, _, _, _, _, _, _, _, _, _, _, _, _, _, _, _, _, _, _, _, _, _, _, _, _, _, _, _] _
  refine mixz_p rfl ?_
  refine mix1_val (fun wz hz => ex_fieldAddr fl59_3 rfl) ?_
  refine mixz_o rfl ?_
  refine ops_buildSlice Try.underlying177 ty126 H3 rfl (by decide) rfl ?_
  intro w4 g4 H4 hg4
  refine ops_nil ?_
  refine ⟨fun hne => H4.pick [0, 1, 2, 3] (by decide), ?_⟩
  change MixZ _ _ _ _ _ _ [_, _, _, _, _, _, _, _, _, _, _, _, _, _, _, _, _, _, _, _, _, _, _, _, _, _, _, _, _, _, _, _, _] _
  refine mixz_o rfl ?_
  refine ops_call (ex_call gf76 rfl) (HS.grp (q := 2) (vnums_R gp gr gb cb sb b hcb hbl) (by decide) H4 (by decide) (show o + 2 + 2 ≤ _ by omega) (At.cast (hat.trans (At.sub _ 2 2)) rfl) rfl rfl) ?_
  rintro _ w5 ⟨us, i1, e1, HS⟩
  have H5 := HS.H.here
  refine ops_nil ?_
  refine ⟨fun hne => absurd rfl hne, ?_⟩
  change MixZ _ _ _ _ _ _ [_, _, _, _, _, _, _, _, _, _, _, _, _, _, _, _, _, _, _, _, _, _, _, _, _, _, _, _, _, _, _, _, _] _
  refine mixz_nil ?_
  change Run _ _ _ _ [_, _, _, _, _, _, _, _, _, _, _, _, _, _, _, _, _, _, _, _, _, _, _, _, _, _, _, _, _, _, _, _, _] _
  refine run_seq ?_
  refine run_region ?_
  refine ops_val (ex_move rfl) ?_
  refine ops_val (ex_move rfl) ?_
  refine ops_val (ex_nilCheck rfl) ?_
  change Ops _ _ _ _ _ _ [_, _, _, _, _, _, _, _, _, _, _, _, _, _, _, _, _, _, _, _, _, _, _, _, _, _, _, _, _, _, _, _, _] _
  refine ops_val (ex_fieldAddr fl59_4 rfl) ?_
  refine ops_call (ex_call gf80 rfl) (HS.one (q := 4) (vplan_R gp gr gb cb sb b hcb hbl) (by decide) (show o + 4 + 7 ≤ _ by omega) (At.cast (hat.trans (At.sub _ 4 7)) rfl)) ?_
  rintro _ w6 ⟨us, i1, e1, HS⟩
  replace HS := HS.join
  have H6 := HS.H.here
  refine ops_nil ?_
  change Run _ _ _ _ [_, _, _, _, _, _, _, _, _, _, _, _, _, _, _, _, _, _, _, _, _, _, _, _, _, _, _, _, _, _, _, _, _] _
  refine run_region ?_
  refine ops_val (ex_move rfl) ?_
  refine ops_val (ex_move rfl) ?_
  refine ops_val (ex_nilCheck rfl) ?_
  change Ops _ _ _ _ _ _ [_, _, _, _, _, _, _, _, _, _, _, _, _, _, _, _, _, _, _, _, _, _, _, _, _, _, _, _, _, _, _, _, _] _
  refine ops_val (ex_fieldAddr fl59_5 rfl) ?_
  refine ops_call (ex_call gf99 rfl) (HS.one (q := 11) (vlmark_R gp gr gb cb sb b hcb hbl) (by decide) (show o + 11 + 1 ≤ _ by omega) (At.cast (hat.trans (At.sub _ 11 1)) rfl)) ?_
  rintro _ w7 ⟨us, i1, e1, HS⟩
  have H7 := HS.H.here
  refine ops_nil ?_
  change Run _ _ _ _ [_, _, _, _, _, _, _, _, _, _, _, _, _, _, _, _, _, _, _, _, _, _, _, _, _, _, _, _, _, _, _, _, _] _
  refine run_nil ?_
  refine fin_end0 rfl ?_
  exact HS.out
theorem vchart_R : WalkR Try.prog 56 thchartF := vchart_r
end Go.Proofs.Ytoeobicpdeklaaa
