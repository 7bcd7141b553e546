/- Walks of layer 2, printed by wip/gen/codec.py. -/
import Derived.Test.YtoeobicpdeklaaaGreatNrm
import Derived.Test.YtoeobicpdeklaaaGreatWireT
import Derived.Test.YtoeobicpdeklaaaGreatWireD
namespace Go.Proofs.YtoeobicpdeklaaaGreat
open Go Go.RowKit
set_option linter.unusedVariables false
attribute [local irreducible] Still Ops Does Cd
set_option maxRecDepth 100000 in
set_option maxHeartbeats 4000000 in
theorem vspan_w (gp go o : Nat) (g : Option Nat) (cap : Nat) (sp : List Value) (st : WS) (U : TypeId) (cs : List Value) (x : thspan.X) (vs : List Value) (w0 : World) (m : Nat) (a : WS) (H0 : Hp w0 w0 (bl (vwo gp g cap sp st go U cs)) (vwo gp g cap sp st go U cs)) (hm : m + thspan.mx ≤ 1000000000) (hP : POk m g cap sp st) (ha : Alike a st) (hM : thspan.M w0 (fun b => b ∉ bl (vwo gp g cap sp st go U cs)) x vs) (hat : At cs o vs) :
    Does Tryz.prog 102 #[.pointer (some ⟨gp, 0, none⟩), .pointer (some ⟨go, o, none⟩)] w0 (fun _ w' => VwOut (m + thspan.mx) gp (wAll (thspan.fl x) a) go U cs w0 (bl (vwo gp g cap sp st go U cs)) w') := by
  refine does_of Tryz.func102 Tryz.ntmps102 rfl ?_
  refine nR13 ?_
  change m + 131090 ≤ 1000000000 at hm
  have HS : VSt gp go o w0 (bl (vwo gp g cap sp st go U cs)) w0 (m + 0) a st thspan x vs U cs g cap sp := ⟨H0, hP, ha, hM, hat⟩
  have H := HS.H.here
  refine run_mixZ 8 [(true, 0), (true, 1), (true, 2), (true, 3), (true, 4), (true, 5), (true, 6), (false, 7), (false, 8)] H [0, 1, 2] mixed (by decide) (by kernel_rfl) ?_
  rintro w1 hw1
  have H1 := Hp.drew H; rw [← hw1] at H1
  refine mixz_p rfl ?_
  refine mix1_val (fun wz hz => ex_move rfl) ?_
  refine mixz_p rfl ?_
  refine mix1_val (fun wz hz => ex_move rfl) ?_
  refine mixz_p rfl ?_
  refine mix1_val (fun wz hz => ex_nilCheck rfl) ?_
  refine nZ13 ?_
  refine mixz_p rfl ?_
  refine mix1_val (fun wz hz => ex_fieldAddr fl89_0 rfl) ?_
  refine mixz_p rfl ?_
  refine mix1_val (fun wz hz => ex_move rfl) ?_
  refine mixz_p rfl ?_
  refine mix1_val (fun wz hz => ex_nilCheck rfl) ?_
  refine nZ13 ?_
  refine mixz_p rfl ?_
  refine mix1_val (fun wz hz => ex_fieldAddr fl89_1 rfl) ?_
  refine mixz_o rfl ?_
  refine ops_buildSlice Tryz.underlying130 ty82 H1 rfl (by decide) rfl ?_
  intro w2 g2 H2 hg2
  refine ops_nil ?_
  refine ⟨fun hne => H2.pick [0, 1, 2] (by decide), ?_⟩
  refine nZ13 ?_
  refine mixz_o rfl ?_
  refine ops_call (ex_call gf45 rfl) (HS.grp (p := 0) vnums_W H2 (by decide) (show m + 0 + 131090 ≤ _ by omega) (fun _ _ hM => (Th.part hM 0 2)) (At.cast (At.trans (At.self _) (At.sub _ 0 2)) (by decide))) ?_
  rintro _ w3 ⟨st, g, cap, sp, HS0⟩
  have HS := VSt.re HS0 (m2 := m + 131090) (by show m + 0 + 131090 = m + 131090; omega)
  have H3 := HS.H.here
  refine ops_nil ?_
  refine ⟨fun hne => absurd rfl hne, ?_⟩
  refine nZ13 ?_
  refine mixz_nil ?_
  refine nR13 ?_
  refine run_nil ?_
  refine fin_end0 rfl ?_
  have hw0 : List.take 2 x = x := Th.whole hM
  refine HS.out2 ?_ rfl
  show _ = wAll (x) a
  simp only [List.drop_zero, wAll_part, wAll_append, Nat.reduceAdd, hw0]
theorem vspan_W : WalkW Tryz.prog 102 thspan := vspan_w
set_option maxRecDepth 100000 in
set_option maxHeartbeats 4000000 in
theorem vspan_r (gp gr : Nat) (gb : Option Nat) (cb : Nat) (sb : List Value) (b : List UInt8) (hcb : b.length ≤ cb) (hbl : b.length ≤ 65536) (go o i e : Nat) (U : TypeId) (cs : List Value) (w0 : World) (H0 : Hp w0 w0 (bl (vr gp gr gb cb sb b i e ++ [(some go, U, cs)])) (vr gp gr gb cb sb b i e ++ [(some go, U, cs)])) (hi : i ≤ b.length) (hat : At cs o thspan.zs) (hfit : o + thspan.sz ≤ cs.length) :
    Does Tryz.prog 102 #[.pointer (some ⟨gp, 0, none⟩), .pointer (some ⟨go, o, none⟩)] w0 (fun _ w' => RdOut (vr gp gr gb cb sb b) thspan go o U cs b i e w0.heap.size w0 (bl (vr gp gr gb cb sb b i e ++ [(some go, U, cs)])) w') := by
  refine does_of Tryz.func102 Tryz.ntmps102 rfl ?_
  refine nR13 ?_
  change o + 2 ≤ cs.length at hfit
  have HS := RSt.start (R := vr gp gr gb cb sb b) (o := o) H0 hi
  have H := HS.H.here
  refine run_mixZ 8 [(true, 0), (true, 1), (true, 2), (true, 3), (true, 4), (true, 5), (true, 6), (false, 7), (false, 8)] H [0, 1, 2, 3] mixed (by decide) (by kernel_rfl) ?_
  rintro w1 hw1
  have H1 := Hp.drew H; rw [← hw1] at H1
  refine mixz_p rfl ?_
  refine mix1_val (fun wz hz => ex_move rfl) ?_
  refine mixz_p rfl ?_
  refine mix1_val (fun wz hz => ex_move rfl) ?_
  refine mixz_p rfl ?_
  refine mix1_val (fun wz hz => ex_nilCheck rfl) ?_
  refine nZ13 ?_
  refine mixz_p rfl ?_
  refine mix1_val (fun wz hz => ex_fieldAddr fl89_0 rfl) ?_
  refine mixz_p rfl ?_
  refine mix1_val (fun wz hz => ex_move rfl) ?_
  refine mixz_p rfl ?_
  refine mix1_val (fun wz hz => ex_nilCheck rfl) ?_
  refine nZ13 ?_
  refine mixz_p rfl ?_
  refine mix1_val (fun wz hz => ex_fieldAddr fl89_1 rfl) ?_
  refine mixz_o rfl ?_
  refine ops_buildSlice Tryz.underlying130 ty82 H1 rfl (by decide) rfl ?_
  intro w2 g2 H2 hg2
  refine ops_nil ?_
  refine ⟨fun hne => H2.pick [0, 1, 2, 3] (by decide), ?_⟩
  refine nZ13 ?_
  refine mixz_o rfl ?_
  refine ops_call (ex_call gf45 rfl) (HS.grp (q := 0) (vnums_R gp gr gb cb sb b hcb hbl) (by decide) H2 (by decide) (show o + 0 + 2 ≤ _ by omega) (At.cast (hat.trans (At.sub _ 0 2)) rfl) rfl rfl) ?_
  rintro _ w3 ⟨us, i1, e1, HS⟩
  replace HS := HS.join1
  have H3 := HS.H.here
  refine ops_nil ?_
  refine ⟨fun hne => absurd rfl hne, ?_⟩
  refine nZ13 ?_
  refine mixz_nil ?_
  refine nR13 ?_
  refine run_nil ?_
  refine fin_end0 rfl ?_
  exact HS.out
theorem vspan_R : WalkR Tryz.prog 102 thspan := vspan_r
set_option maxRecDepth 100000 in
set_option maxHeartbeats 4000000 in
theorem vlock_w (gp go o : Nat) (g : Option Nat) (cap : Nat) (sp : List Value) (st : WS) (U : TypeId) (cs : List Value) (x : thlock.X) (vs : List Value) (w0 : World) (m : Nat) (a : WS) (H0 : Hp w0 w0 (bl (vwo gp g cap sp st go U cs)) (vwo gp g cap sp st go U cs)) (hm : m + thlock.mx ≤ 1000000000) (hP : POk m g cap sp st) (ha : Alike a st) (hM : thlock.M w0 (fun b => b ∉ bl (vwo gp g cap sp st go U cs)) x vs) (hat : At cs o vs) :
    Does Tryz.prog 104 #[.pointer (some ⟨gp, 0, none⟩), .pointer (some ⟨go, o, none⟩)] w0 (fun _ w' => VwOut (m + thlock.mx) gp (wAll (thlock.fl x) a) go U cs w0 (bl (vwo gp g cap sp st go U cs)) w') := by
  refine does_of Tryz.func104 Tryz.ntmps104 rfl ?_
  refine nR19 ?_
  change m + 262180 ≤ 1000000000 at hm
  have HS : VSt gp go o w0 (bl (vwo gp g cap sp st go U cs)) w0 (m + 0) a st thlock x vs U cs g cap sp := ⟨H0, hP, ha, hM, hat⟩
  have H := HS.H.here
  refine run_mixZ 14 [(true, 0), (true, 1), (true, 2), (true, 3), (true, 4), (true, 5), (true, 6), (true, 7), (true, 8), (true, 9), (true, 10), (true, 11), (true, 12), (false, 13), (false, 14)] H [0, 1, 2] mixed (by decide) (by kernel_rfl) ?_
  rintro w1 hw1
  have H1 := Hp.drew H; rw [← hw1] at H1
  refine mixz_p rfl ?_
  refine mix1_val (fun wz hz => ex_move rfl) ?_
  refine mixz_p rfl ?_
  refine mix1_val (fun wz hz => ex_move rfl) ?_
  refine mixz_p rfl ?_
  refine mix1_val (fun wz hz => ex_nilCheck rfl) ?_
  refine nZ19 ?_
  refine mixz_p rfl ?_
  refine mix1_val (fun wz hz => ex_fieldAddr fl92_0 rfl) ?_
  refine mixz_p rfl ?_
  refine mix1_val (fun wz hz => ex_move rfl) ?_
  refine mixz_p rfl ?_
  refine mix1_val (fun wz hz => ex_nilCheck rfl) ?_
  refine nZ19 ?_
  refine mixz_p rfl ?_
  refine mix1_val (fun wz hz => ex_fieldAddr fl92_1 rfl) ?_
  refine mixz_p rfl ?_
  refine mix1_val (fun wz hz => ex_move rfl) ?_
  refine mixz_p rfl ?_
  refine mix1_val (fun wz hz => ex_nilCheck rfl) ?_
  refine nZ19 ?_
  refine mixz_p rfl ?_
  refine mix1_val (fun wz hz => ex_fieldAddr fl92_2 rfl) ?_
  refine mixz_p rfl ?_
  refine mix1_val (fun wz hz => ex_move rfl) ?_
  refine mixz_p rfl ?_
  refine mix1_val (fun wz hz => ex_nilCheck rfl) ?_
  refine nZ19 ?_
  refine mixz_p rfl ?_
  refine mix1_val (fun wz hz => ex_fieldAddr fl92_3 rfl) ?_
  refine mixz_o rfl ?_
  refine ops_buildSlice Tryz.underlying130 ty82 H1 rfl (by decide) rfl ?_
  intro w2 g2 H2 hg2
  refine ops_nil ?_
  refine ⟨fun hne => H2.pick [0, 1, 2] (by decide), ?_⟩
  refine nZ19 ?_
  refine mixz_o rfl ?_
  refine ops_call (ex_call gf45 rfl) (HS.grp (p := 0) vnums_W H2 (by decide) (show m + 0 + 262180 ≤ _ by omega) (fun _ _ hM => (Th.part hM 0 4)) (At.cast (At.trans (At.self _) (At.sub _ 0 4)) (by decide))) ?_
  rintro _ w3 ⟨st, g, cap, sp, HS0⟩
  have HS := VSt.re HS0 (m2 := m + 262180) (by show m + 0 + 262180 = m + 262180; omega)
  have H3 := HS.H.here
  refine ops_nil ?_
  refine ⟨fun hne => absurd rfl hne, ?_⟩
  refine nZ19 ?_
  refine mixz_nil ?_
  refine nR19 ?_
  refine run_nil ?_
  refine fin_end0 rfl ?_
  have hw0 : List.take 4 x = x := Th.whole hM
  refine HS.out2 ?_ rfl
  show _ = wAll (x) a
  simp only [List.drop_zero, wAll_part, wAll_append, Nat.reduceAdd, hw0]
theorem vlock_W : WalkW Tryz.prog 104 thlock := vlock_w
set_option maxRecDepth 100000 in
set_option maxHeartbeats 4000000 in
theorem vlock_r (gp gr : Nat) (gb : Option Nat) (cb : Nat) (sb : List Value) (b : List UInt8) (hcb : b.length ≤ cb) (hbl : b.length ≤ 65536) (go o i e : Nat) (U : TypeId) (cs : List Value) (w0 : World) (H0 : Hp w0 w0 (bl (vr gp gr gb cb sb b i e ++ [(some go, U, cs)])) (vr gp gr gb cb sb b i e ++ [(some go, U, cs)])) (hi : i ≤ b.length) (hat : At cs o thlock.zs) (hfit : o + thlock.sz ≤ cs.length) :
    Does Tryz.prog 104 #[.pointer (some ⟨gp, 0, none⟩), .pointer (some ⟨go, o, none⟩)] w0 (fun _ w' => RdOut (vr gp gr gb cb sb b) thlock go o U cs b i e w0.heap.size w0 (bl (vr gp gr gb cb sb b i e ++ [(some go, U, cs)])) w') := by
  refine does_of Tryz.func104 Tryz.ntmps104 rfl ?_
  refine nR19 ?_
  change o + 4 ≤ cs.length at hfit
  have HS := RSt.start (R := vr gp gr gb cb sb b) (o := o) H0 hi
  have H := HS.H.here
  refine run_mixZ 14 [(true, 0), (true, 1), (true, 2), (true, 3), (true, 4), (true, 5), (true, 6), (true, 7), (true, 8), (true, 9), (true, 10), (true, 11), (true, 12), (false, 13), (false, 14)] H [0, 1, 2, 3] mixed (by decide) (by kernel_rfl) ?_
  rintro w1 hw1
  have H1 := Hp.drew H; rw [← hw1] at H1
  refine mixz_p rfl ?_
  refine mix1_val (fun wz hz => ex_move rfl) ?_
  refine mixz_p rfl ?_
  refine mix1_val (fun wz hz => ex_move rfl) ?_
  refine mixz_p rfl ?_
  refine mix1_val (fun wz hz => ex_nilCheck rfl) ?_
  refine nZ19 ?_
  refine mixz_p rfl ?_
  refine mix1_val (fun wz hz => ex_fieldAddr fl92_0 rfl) ?_
  refine mixz_p rfl ?_
  refine mix1_val (fun wz hz => ex_move rfl) ?_
  refine mixz_p rfl ?_
  refine mix1_val (fun wz hz => ex_nilCheck rfl) ?_
  refine nZ19 ?_
  refine mixz_p rfl ?_
  refine mix1_val (fun wz hz => ex_fieldAddr fl92_1 rfl) ?_
  refine mixz_p rfl ?_
  refine mix1_val (fun wz hz => ex_move rfl) ?_
  refine mixz_p rfl ?_
  refine mix1_val (fun wz hz => ex_nilCheck rfl) ?_
  refine nZ19 ?_
  refine mixz_p rfl ?_
  refine mix1_val (fun wz hz => ex_fieldAddr fl92_2 rfl) ?_
  refine mixz_p rfl ?_
  refine mix1_val (fun wz hz => ex_move rfl) ?_
  refine mixz_p rfl ?_
  refine mix1_val (fun wz hz => ex_nilCheck rfl) ?_
  refine nZ19 ?_
  refine mixz_p rfl ?_
  refine mix1_val (fun wz hz => ex_fieldAddr fl92_3 rfl) ?_
  refine mixz_o rfl ?_
  refine ops_buildSlice Tryz.underlying130 ty82 H1 rfl (by decide) rfl ?_
  intro w2 g2 H2 hg2
  refine ops_nil ?_
  refine ⟨fun hne => H2.pick [0, 1, 2, 3] (by decide), ?_⟩
  refine nZ19 ?_
  refine mixz_o rfl ?_
  refine ops_call (ex_call gf45 rfl) (HS.grp (q := 0) (vnums_R gp gr gb cb sb b hcb hbl) (by decide) H2 (by decide) (show o + 0 + 4 ≤ _ by omega) (At.cast (hat.trans (At.sub _ 0 4)) rfl) rfl rfl) ?_
  rintro _ w3 ⟨us, i1, e1, HS⟩
  replace HS := HS.join1
  have H3 := HS.H.here
  refine ops_nil ?_
  refine ⟨fun hne => absurd rfl hne, ?_⟩
  refine nZ19 ?_
  refine mixz_nil ?_
  refine nR19 ?_
  refine run_nil ?_
  refine fin_end0 rfl ?_
  exact HS.out
theorem vlock_R : WalkR Tryz.prog 104 thlock := vlock_r
set_option maxRecDepth 100000 in
set_option maxHeartbeats 4000000 in
theorem vop_w (gp go o : Nat) (g : Option Nat) (cap : Nat) (sp : List Value) (st : WS) (U : TypeId) (cs : List Value) (x : thop.X) (vs : List Value) (w0 : World) (m : Nat) (a : WS) (H0 : Hp w0 w0 (bl (vwo gp g cap sp st go U cs)) (vwo gp g cap sp st go U cs)) (hm : m + thop.mx ≤ 1000000000) (hP : POk m g cap sp st) (ha : Alike a st) (hM : thop.M w0 (fun b => b ∉ bl (vwo gp g cap sp st go U cs)) x vs) (hat : At cs o vs) :
    Does Tryz.prog 106 #[.pointer (some ⟨gp, 0, none⟩), .pointer (some ⟨go, o, none⟩)] w0 (fun _ w' => VwOut (m + thop.mx) gp (wAll (thop.fl x) a) go U cs w0 (bl (vwo gp g cap sp st go U cs)) w') := by
  refine does_of Tryz.func106 Tryz.ntmps106 rfl ?_
  refine nR31 ?_
  change m + 393270 ≤ 1000000000 at hm
  have HS : VSt gp go o w0 (bl (vwo gp g cap sp st go U cs)) w0 (m + 0) a st thop x vs U cs g cap sp := ⟨H0, hP, ha, hM, hat⟩
  have H := HS.H.here
  refine run_seq ?_
  refine run_region ?_
  refine ops_val (ex_move rfl) ?_
  refine ops_val (ex_move rfl) ?_
  refine ops_val (ex_nilCheck rfl) ?_
  refine nO31 ?_
  refine ops_val (ex_fieldAddr fl60_0 rfl) ?_
  refine ops_call (ex_call gf48 rfl) (HS.one (p := 0) vnum_W (show m + 0 + 65545 ≤ _ by omega) (fun _ _ hM => (Th.part hM 0 1)) (At.cast (At.trans (At.self _) (At.sub _ 0 1)) (by decide))) ?_
  rintro _ w1 ⟨st, g, cap, sp, HS0⟩
  have HS := VSt.re HS0 (m2 := m + 65545) (by show m + 0 + 65545 = m + 65545; omega)
  have H1 := HS.H.here
  refine ops_nil ?_
  refine nR31 ?_
  refine run_seq ?_
  refine run_region ?_
  refine ops_val (ex_move rfl) ?_
  refine ops_val (ex_move rfl) ?_
  refine ops_val (ex_nilCheck rfl) ?_
  refine nO31 ?_
  refine ops_val (ex_fieldAddr fl60_1 rfl) ?_
  refine ops_call (ex_call gf47 rfl) (HS.one (p := 1) vtext_W (show m + 65545 + 65545 ≤ _ by omega) (fun _ _ hM => (Th.part hM 1 1)) (At.cast (At.trans (At.self _) (At.sub _ 1 1)) (by decide))) ?_
  rintro _ w2 ⟨st, g, cap, sp, HS0⟩
  have HS := VSt.re HS0 (m2 := m + 131090) (by show m + 65545 + 65545 = m + 131090; omega)
  have H2 := HS.H.here
  refine ops_nil ?_
  refine nR31 ?_
  refine run_seq ?_
  refine run_region ?_
  refine ops_val (ex_move rfl) ?_
  refine ops_val (ex_move rfl) ?_
  refine ops_val (ex_nilCheck rfl) ?_
  refine nO31 ?_
  refine ops_val (ex_fieldAddr fl60_2 rfl) ?_
  refine ops_call (ex_call gf47 rfl) (HS.one (p := 2) vtext_W (show m + 131090 + 65545 ≤ _ by omega) (fun _ _ hM => (Th.part hM 2 1)) (At.cast (At.trans (At.self _) (At.sub _ 2 1)) (by decide))) ?_
  rintro _ w3 ⟨st, g, cap, sp, HS0⟩
  have HS := VSt.re HS0 (m2 := m + 196635) (by show m + 131090 + 65545 = m + 196635; omega)
  have H3 := HS.H.here
  refine ops_nil ?_
  refine nR31 ?_
  refine run_mixZ 11 [(true, 0), (true, 1), (true, 2), (true, 3), (true, 4), (true, 5), (true, 6), (true, 7), (true, 8), (true, 9), (false, 10), (false, 11)] H3 [0, 1, 2] mixed (by decide) (by kernel_rfl) ?_
  rintro w4 hw4
  have H4 := Hp.drew H3; rw [← hw4] at H4
  refine mixz_p rfl ?_
  refine mix1_val (fun wz hz => ex_move rfl) ?_
  refine mixz_p rfl ?_
  refine mix1_val (fun wz hz => ex_move rfl) ?_
  refine mixz_p rfl ?_
  refine mix1_val (fun wz hz => ex_nilCheck rfl) ?_
  refine nZ31 ?_
  refine mixz_p rfl ?_
  refine mix1_val (fun wz hz => ex_fieldAddr fl60_3 rfl) ?_
  refine mixz_p rfl ?_
  refine mix1_val (fun wz hz => ex_move rfl) ?_
  refine mixz_p rfl ?_
  refine mix1_val (fun wz hz => ex_nilCheck rfl) ?_
  refine nZ31 ?_
  refine mixz_p rfl ?_
  refine mix1_val (fun wz hz => ex_fieldAddr fl60_4 rfl) ?_
  refine mixz_p rfl ?_
  refine mix1_val (fun wz hz => ex_move rfl) ?_
  refine mixz_p rfl ?_
  refine mix1_val (fun wz hz => ex_nilCheck rfl) ?_
  refine nZ31 ?_
  refine mixz_p rfl ?_
  refine mix1_val (fun wz hz => ex_fieldAddr fl60_5 rfl) ?_
  refine mixz_o rfl ?_
  refine ops_buildSlice Tryz.underlying130 ty82 H4 rfl (by decide) rfl ?_
  intro w5 g5 H5 hg5
  refine ops_nil ?_
  refine ⟨fun hne => H5.pick [0, 1, 2] (by decide), ?_⟩
  refine nZ31 ?_
  refine mixz_o rfl ?_
  refine ops_call (ex_call gf45 rfl) (HS.grp (p := 3) vnums_W H5 (by decide) (show m + 196635 + 196635 ≤ _ by omega) (fun _ _ hM => (Th.part hM 3 3)) (At.cast (At.trans (At.self _) (At.sub _ 3 3)) (by decide))) ?_
  rintro _ w6 ⟨st, g, cap, sp, HS0⟩
  have HS := VSt.re HS0 (m2 := m + 393270) (by show m + 196635 + 196635 = m + 393270; omega)
  have H6 := HS.H.here
  refine ops_nil ?_
  refine ⟨fun hne => absurd rfl hne, ?_⟩
  refine nZ31 ?_
  refine mixz_nil ?_
  refine nR31 ?_
  refine run_nil ?_
  refine fin_end0 rfl ?_
  have hw0 : List.take 6 x = x := Th.whole hM
  refine HS.out2 ?_ rfl
  show _ = wAll (x) a
  simp only [List.drop_zero, wAll_part, wAll_append, Nat.reduceAdd, hw0]
theorem vop_W : WalkW Tryz.prog 106 thop := vop_w
set_option maxRecDepth 100000 in
set_option maxHeartbeats 4000000 in
theorem vop_r (gp gr : Nat) (gb : Option Nat) (cb : Nat) (sb : List Value) (b : List UInt8) (hcb : b.length ≤ cb) (hbl : b.length ≤ 65536) (go o i e : Nat) (U : TypeId) (cs : List Value) (w0 : World) (H0 : Hp w0 w0 (bl (vr gp gr gb cb sb b i e ++ [(some go, U, cs)])) (vr gp gr gb cb sb b i e ++ [(some go, U, cs)])) (hi : i ≤ b.length) (hat : At cs o thop.zs) (hfit : o + thop.sz ≤ cs.length) :
    Does Tryz.prog 106 #[.pointer (some ⟨gp, 0, none⟩), .pointer (some ⟨go, o, none⟩)] w0 (fun _ w' => RdOut (vr gp gr gb cb sb b) thop go o U cs b i e w0.heap.size w0 (bl (vr gp gr gb cb sb b i e ++ [(some go, U, cs)])) w') := by
  refine does_of Tryz.func106 Tryz.ntmps106 rfl ?_
  refine nR31 ?_
  change o + 6 ≤ cs.length at hfit
  have HS := RSt.start (R := vr gp gr gb cb sb b) (o := o) H0 hi
  have H := HS.H.here
  refine run_seq ?_
  refine run_region ?_
  refine ops_val (ex_move rfl) ?_
  refine ops_val (ex_move rfl) ?_
  refine ops_val (ex_nilCheck rfl) ?_
  refine nO31 ?_
  refine ops_val (ex_fieldAddr fl60_0 rfl) ?_
  refine ops_call (ex_call gf48 rfl) (HS.one (q := 0) (vnum_R gp gr gb cb sb b hcb hbl) (by decide) (show o + 0 + 1 ≤ _ by omega) (At.cast (hat.trans (At.sub _ 0 1)) rfl)) ?_
  rintro _ w1 ⟨us, i1, e1, HS⟩
  replace HS := HS.join1
  have H1 := HS.H.here
  refine ops_nil ?_
  refine nR31 ?_
  refine run_seq ?_
  refine run_region ?_
  refine ops_val (ex_move rfl) ?_
  refine ops_val (ex_move rfl) ?_
  refine ops_val (ex_nilCheck rfl) ?_
  refine nO31 ?_
  refine ops_val (ex_fieldAddr fl60_1 rfl) ?_
  refine ops_call (ex_call gf47 rfl) (HS.one (q := 1) (vtext_R gp gr gb cb sb b hcb hbl) (by decide) (show o + 1 + 1 ≤ _ by omega) (At.cast (hat.trans (At.sub _ 1 1)) rfl)) ?_
  rintro _ w2 ⟨us, i1, e1, HS⟩
  replace HS := HS.join1
  have H2 := HS.H.here
  refine ops_nil ?_
  refine nR31 ?_
  refine run_seq ?_
  refine run_region ?_
  refine ops_val (ex_move rfl) ?_
  refine ops_val (ex_move rfl) ?_
  refine ops_val (ex_nilCheck rfl) ?_
  refine nO31 ?_
  refine ops_val (ex_fieldAddr fl60_2 rfl) ?_
  refine ops_call (ex_call gf47 rfl) (HS.one (q := 2) (vtext_R gp gr gb cb sb b hcb hbl) (by decide) (show o + 2 + 1 ≤ _ by omega) (At.cast (hat.trans (At.sub _ 2 1)) rfl)) ?_
  rintro _ w3 ⟨us, i1, e1, HS⟩
  replace HS := HS.join1
  have H3 := HS.H.here
  refine ops_nil ?_
  refine nR31 ?_
  refine run_mixZ 11 [(true, 0), (true, 1), (true, 2), (true, 3), (true, 4), (true, 5), (true, 6), (true, 7), (true, 8), (true, 9), (false, 10), (false, 11)] H3 [0, 1, 2, 3] mixed (by decide) (by kernel_rfl) ?_
  rintro w4 hw4
  have H4 := Hp.drew H3; rw [← hw4] at H4
  refine mixz_p rfl ?_
  refine mix1_val (fun wz hz => ex_move rfl) ?_
  refine mixz_p rfl ?_
  refine mix1_val (fun wz hz => ex_move rfl) ?_
  refine mixz_p rfl ?_
  refine mix1_val (fun wz hz => ex_nilCheck rfl) ?_
  refine nZ31 ?_
  refine mixz_p rfl ?_
  refine mix1_val (fun wz hz => ex_fieldAddr fl60_3 rfl) ?_
  refine mixz_p rfl ?_
  refine mix1_val (fun wz hz => ex_move rfl) ?_
  refine mixz_p rfl ?_
  refine mix1_val (fun wz hz => ex_nilCheck rfl) ?_
  refine nZ31 ?_
  refine mixz_p rfl ?_
  refine mix1_val (fun wz hz => ex_fieldAddr fl60_4 rfl) ?_
  refine mixz_p rfl ?_
  refine mix1_val (fun wz hz => ex_move rfl) ?_
  refine mixz_p rfl ?_
  refine mix1_val (fun wz hz => ex_nilCheck rfl) ?_
  refine nZ31 ?_
  refine mixz_p rfl ?_
  refine mix1_val (fun wz hz => ex_fieldAddr fl60_5 rfl) ?_
  refine mixz_o rfl ?_
  refine ops_buildSlice Tryz.underlying130 ty82 H4 rfl (by decide) rfl ?_
  intro w5 g5 H5 hg5
  refine ops_nil ?_
  refine ⟨fun hne => H5.pick [0, 1, 2, 3] (by decide), ?_⟩
  refine nZ31 ?_
  refine mixz_o rfl ?_
  refine ops_call (ex_call gf45 rfl) (HS.grp (q := 3) (vnums_R gp gr gb cb sb b hcb hbl) (by decide) H5 (by decide) (show o + 3 + 3 ≤ _ by omega) (At.cast (hat.trans (At.sub _ 3 3)) rfl) rfl rfl) ?_
  rintro _ w6 ⟨us, i1, e1, HS⟩
  replace HS := HS.join1
  have H6 := HS.H.here
  refine ops_nil ?_
  refine ⟨fun hne => absurd rfl hne, ?_⟩
  refine nZ31 ?_
  refine mixz_nil ?_
  refine nR31 ?_
  refine run_nil ?_
  refine fin_end0 rfl ?_
  exact HS.out
theorem vop_R : WalkR Tryz.prog 106 thop := vop_r
set_option maxRecDepth 100000 in
set_option maxHeartbeats 4000000 in
theorem vplan_w (gp go o : Nat) (g : Option Nat) (cap : Nat) (sp : List Value) (st : WS) (U : TypeId) (cs : List Value) (x : thplan.X) (vs : List Value) (w0 : World) (m : Nat) (a : WS) (H0 : Hp w0 w0 (bl (vwo gp g cap sp st go U cs)) (vwo gp g cap sp st go U cs)) (hm : m + thplan.mx ≤ 1000000000) (hP : POk m g cap sp st) (ha : Alike a st) (hM : thplan.M w0 (fun b => b ∉ bl (vwo gp g cap sp st go U cs)) x vs) (hat : At cs o vs) :
    Does Tryz.prog 54 #[.pointer (some ⟨gp, 0, none⟩), .pointer (some ⟨go, o, none⟩)] w0 (fun _ w' => VwOut (m + thplan.mx) gp (wAll (thplan.fl x) a) go U cs w0 (bl (vwo gp g cap sp st go U cs)) w') := by
  refine does_of Tryz.func54 Tryz.ntmps54 rfl ?_
  refine nR35 ?_
  change m + 458815 ≤ 1000000000 at hm
  have HS : VSt gp go o w0 (bl (vwo gp g cap sp st go U cs)) w0 (m + 0) a st thplan x vs U cs g cap sp := ⟨H0, hP, ha, hM, hat⟩
  have H := HS.H.here
  refine run_seq ?_
  refine run_mixZ 11 [(true, 0), (true, 1), (true, 2), (true, 3), (true, 4), (true, 5), (true, 6), (true, 7), (true, 8), (true, 9), (false, 10), (false, 11)] H [0, 1, 2] mixed (by decide) (by kernel_rfl) ?_
  rintro w1 hw1
  have H1 := Hp.drew H; rw [← hw1] at H1
  refine mixz_p rfl ?_
  refine mix1_val (fun wz hz => ex_move rfl) ?_
  refine mixz_p rfl ?_
  refine mix1_val (fun wz hz => ex_move rfl) ?_
  refine mixz_p rfl ?_
  refine mix1_val (fun wz hz => ex_nilCheck rfl) ?_
  refine nZ35 ?_
  refine mixz_p rfl ?_
  refine mix1_val (fun wz hz => ex_fieldAddr fl28_0 rfl) ?_
  refine mixz_p rfl ?_
  refine mix1_val (fun wz hz => ex_move rfl) ?_
  refine mixz_p rfl ?_
  refine mix1_val (fun wz hz => ex_nilCheck rfl) ?_
  refine nZ35 ?_
  refine mixz_p rfl ?_
  refine mix1_val (fun wz hz => ex_fieldAddr fl28_1 rfl) ?_
  refine mixz_p rfl ?_
  refine mix1_val (fun wz hz => ex_move rfl) ?_
  refine mixz_p rfl ?_
  refine mix1_val (fun wz hz => ex_nilCheck rfl) ?_
  refine nZ35 ?_
  refine mixz_p rfl ?_
  refine mix1_val (fun wz hz => ex_fieldAddr fl28_2 rfl) ?_
  refine mixz_o rfl ?_
  refine ops_buildSlice Tryz.underlying130 ty82 H1 rfl (by decide) rfl ?_
  intro w2 g2 H2 hg2
  refine ops_nil ?_
  refine ⟨fun hne => H2.pick [0, 1, 2] (by decide), ?_⟩
  refine nZ35 ?_
  refine mixz_o rfl ?_
  refine ops_call (ex_call gf45 rfl) (HS.grp (p := 0) vnums_W H2 (by decide) (show m + 0 + 196635 ≤ _ by omega) (fun _ _ hM => (Th.part hM 0 3)) (At.cast (At.trans (At.self _) (At.sub _ 0 3)) (by decide))) ?_
  rintro _ w3 ⟨st, g, cap, sp, HS0⟩
  have HS := VSt.re HS0 (m2 := m + 196635) (by show m + 0 + 196635 = m + 196635; omega)
  have H3 := HS.H.here
  refine ops_nil ?_
  refine ⟨fun hne => absurd rfl hne, ?_⟩
  refine nZ35 ?_
  refine mixz_nil ?_
  refine nR35 ?_
  refine run_seq ?_
  refine run_region ?_
  refine ops_val (ex_move rfl) ?_
  refine ops_val (ex_move rfl) ?_
  refine ops_val (ex_nilCheck rfl) ?_
  refine nO35 ?_
  refine ops_val (ex_fieldAddr fl28_3 rfl) ?_
  refine ops_call (ex_call gf47 rfl) (HS.one (p := 3) vtext_W (show m + 196635 + 65545 ≤ _ by omega) (fun _ _ hM => (Th.part hM 3 1)) (At.cast (At.trans (At.self _) (At.sub _ 3 1)) (by decide))) ?_
  rintro _ w4 ⟨st, g, cap, sp, HS0⟩
  have HS := VSt.re HS0 (m2 := m + 262180) (by show m + 196635 + 65545 = m + 262180; omega)
  have H4 := HS.H.here
  refine ops_nil ?_
  refine nR35 ?_
  refine run_seq ?_
  refine run_region ?_
  refine ops_val (ex_move rfl) ?_
  refine ops_val (ex_move rfl) ?_
  refine ops_val (ex_nilCheck rfl) ?_
  refine nO35 ?_
  refine ops_val (ex_fieldAddr fl28_4 rfl) ?_
  refine ops_call (ex_call gf47 rfl) (HS.one (p := 4) vtext_W (show m + 262180 + 65545 ≤ _ by omega) (fun _ _ hM => (Th.part hM 4 1)) (At.cast (At.trans (At.self _) (At.sub _ 4 1)) (by decide))) ?_
  rintro _ w5 ⟨st, g, cap, sp, HS0⟩
  have HS := VSt.re HS0 (m2 := m + 327725) (by show m + 262180 + 65545 = m + 327725; omega)
  have H5 := HS.H.here
  refine ops_nil ?_
  refine nR35 ?_
  refine run_mixZ 8 [(true, 0), (true, 1), (true, 2), (true, 3), (true, 4), (true, 5), (true, 6), (false, 7), (false, 8)] H5 [0, 1, 2] mixed (by decide) (by kernel_rfl) ?_
  rintro w6 hw6
  have H6 := Hp.drew H5; rw [← hw6] at H6
  refine mixz_p rfl ?_
  refine mix1_val (fun wz hz => ex_move rfl) ?_
  refine mixz_p rfl ?_
  refine mix1_val (fun wz hz => ex_move rfl) ?_
  refine mixz_p rfl ?_
  refine mix1_val (fun wz hz => ex_nilCheck rfl) ?_
  refine nZ35 ?_
  refine mixz_p rfl ?_
  refine mix1_val (fun wz hz => ex_fieldAddr fl28_5 rfl) ?_
  refine mixz_p rfl ?_
  refine mix1_val (fun wz hz => ex_move rfl) ?_
  refine mixz_p rfl ?_
  refine mix1_val (fun wz hz => ex_nilCheck rfl) ?_
  refine nZ35 ?_
  refine mixz_p rfl ?_
  refine mix1_val (fun wz hz => ex_fieldAddr fl28_6 rfl) ?_
  refine mixz_o rfl ?_
  refine ops_buildSlice Tryz.underlying130 ty82 H6 rfl (by decide) rfl ?_
  intro w7 g7 H7 hg7
  refine ops_nil ?_
  refine ⟨fun hne => H7.pick [0, 1, 2] (by decide), ?_⟩
  refine nZ35 ?_
  refine mixz_o rfl ?_
  refine ops_call (ex_call gf45 rfl) (HS.grp (p := 5) vnums_W H7 (by decide) (show m + 327725 + 131090 ≤ _ by omega) (fun _ _ hM => (Th.part hM 5 2)) (At.cast (At.trans (At.self _) (At.sub _ 5 2)) (by decide))) ?_
  rintro _ w8 ⟨st, g, cap, sp, HS0⟩
  have HS := VSt.re HS0 (m2 := m + 458815) (by show m + 327725 + 131090 = m + 458815; omega)
  have H8 := HS.H.here
  refine ops_nil ?_
  refine ⟨fun hne => absurd rfl hne, ?_⟩
  refine nZ35 ?_
  refine mixz_nil ?_
  refine nR35 ?_
  refine run_nil ?_
  refine fin_end0 rfl ?_
  have hw0 : List.take 7 x = x := Th.whole hM
  refine HS.out2 ?_ rfl
  show _ = wAll (x) a
  simp only [List.drop_zero, wAll_part, wAll_append, Nat.reduceAdd, hw0]
theorem vplan_W : WalkW Tryz.prog 54 thplan := vplan_w
set_option maxRecDepth 100000 in
set_option maxHeartbeats 4000000 in
theorem vplan_r (gp gr : Nat) (gb : Option Nat) (cb : Nat) (sb : List Value) (b : List UInt8) (hcb : b.length ≤ cb) (hbl : b.length ≤ 65536) (go o i e : Nat) (U : TypeId) (cs : List Value) (w0 : World) (H0 : Hp w0 w0 (bl (vr gp gr gb cb sb b i e ++ [(some go, U, cs)])) (vr gp gr gb cb sb b i e ++ [(some go, U, cs)])) (hi : i ≤ b.length) (hat : At cs o thplan.zs) (hfit : o + thplan.sz ≤ cs.length) :
    Does Tryz.prog 54 #[.pointer (some ⟨gp, 0, none⟩), .pointer (some ⟨go, o, none⟩)] w0 (fun _ w' => RdOut (vr gp gr gb cb sb b) thplan go o U cs b i e w0.heap.size w0 (bl (vr gp gr gb cb sb b i e ++ [(some go, U, cs)])) w') := by
  refine does_of Tryz.func54 Tryz.ntmps54 rfl ?_
  refine nR35 ?_
  change o + 7 ≤ cs.length at hfit
  have HS := RSt.start (R := vr gp gr gb cb sb b) (o := o) H0 hi
  have H := HS.H.here
  refine run_seq ?_
  refine run_mixZ 11 [(true, 0), (true, 1), (true, 2), (true, 3), (true, 4), (true, 5), (true, 6), (true, 7), (true, 8), (true, 9), (false, 10), (false, 11)] H [0, 1, 2, 3] mixed (by decide) (by kernel_rfl) ?_
  rintro w1 hw1
  have H1 := Hp.drew H; rw [← hw1] at H1
  refine mixz_p rfl ?_
  refine mix1_val (fun wz hz => ex_move rfl) ?_
  refine mixz_p rfl ?_
  refine mix1_val (fun wz hz => ex_move rfl) ?_
  refine mixz_p rfl ?_
  refine mix1_val (fun wz hz => ex_nilCheck rfl) ?_
  refine nZ35 ?_
  refine mixz_p rfl ?_
  refine mix1_val (fun wz hz => ex_fieldAddr fl28_0 rfl) ?_
  refine mixz_p rfl ?_
  refine mix1_val (fun wz hz => ex_move rfl) ?_
  refine mixz_p rfl ?_
  refine mix1_val (fun wz hz => ex_nilCheck rfl) ?_
  refine nZ35 ?_
  refine mixz_p rfl ?_
  refine mix1_val (fun wz hz => ex_fieldAddr fl28_1 rfl) ?_
  refine mixz_p rfl ?_
  refine mix1_val (fun wz hz => ex_move rfl) ?_
  refine mixz_p rfl ?_
  refine mix1_val (fun wz hz => ex_nilCheck rfl) ?_
  refine nZ35 ?_
  refine mixz_p rfl ?_
  refine mix1_val (fun wz hz => ex_fieldAddr fl28_2 rfl) ?_
  refine mixz_o rfl ?_
  refine ops_buildSlice Tryz.underlying130 ty82 H1 rfl (by decide) rfl ?_
  intro w2 g2 H2 hg2
  refine ops_nil ?_
  refine ⟨fun hne => H2.pick [0, 1, 2, 3] (by decide), ?_⟩
  refine nZ35 ?_
  refine mixz_o rfl ?_
  refine ops_call (ex_call gf45 rfl) (HS.grp (q := 0) (vnums_R gp gr gb cb sb b hcb hbl) (by decide) H2 (by decide) (show o + 0 + 3 ≤ _ by omega) (At.cast (hat.trans (At.sub _ 0 3)) rfl) rfl rfl) ?_
  rintro _ w3 ⟨us, i1, e1, HS⟩
  replace HS := HS.join1
  have H3 := HS.H.here
  refine ops_nil ?_
  refine ⟨fun hne => absurd rfl hne, ?_⟩
  refine nZ35 ?_
  refine mixz_nil ?_
  refine nR35 ?_
  refine run_seq ?_
  refine run_region ?_
  refine ops_val (ex_move rfl) ?_
  refine ops_val (ex_move rfl) ?_
  refine ops_val (ex_nilCheck rfl) ?_
  refine nO35 ?_
  refine ops_val (ex_fieldAddr fl28_3 rfl) ?_
  refine ops_call (ex_call gf47 rfl) (HS.one (q := 3) (vtext_R gp gr gb cb sb b hcb hbl) (by decide) (show o + 3 + 1 ≤ _ by omega) (At.cast (hat.trans (At.sub _ 3 1)) rfl)) ?_
  rintro _ w4 ⟨us, i1, e1, HS⟩
  replace HS := HS.join1
  have H4 := HS.H.here
  refine ops_nil ?_
  refine nR35 ?_
  refine run_seq ?_
  refine run_region ?_
  refine ops_val (ex_move rfl) ?_
  refine ops_val (ex_move rfl) ?_
  refine ops_val (ex_nilCheck rfl) ?_
  refine nO35 ?_
  refine ops_val (ex_fieldAddr fl28_4 rfl) ?_
  refine ops_call (ex_call gf47 rfl) (HS.one (q := 4) (vtext_R gp gr gb cb sb b hcb hbl) (by decide) (show o + 4 + 1 ≤ _ by omega) (At.cast (hat.trans (At.sub _ 4 1)) rfl)) ?_
  rintro _ w5 ⟨us, i1, e1, HS⟩
  replace HS := HS.join1
  have H5 := HS.H.here
  refine ops_nil ?_
  refine nR35 ?_
  refine run_mixZ 8 [(true, 0), (true, 1), (true, 2), (true, 3), (true, 4), (true, 5), (true, 6), (false, 7), (false, 8)] H5 [0, 1, 2, 3] mixed (by decide) (by kernel_rfl) ?_
  rintro w6 hw6
  have H6 := Hp.drew H5; rw [← hw6] at H6
  refine mixz_p rfl ?_
  refine mix1_val (fun wz hz => ex_move rfl) ?_
  refine mixz_p rfl ?_
  refine mix1_val (fun wz hz => ex_move rfl) ?_
  refine mixz_p rfl ?_
  refine mix1_val (fun wz hz => ex_nilCheck rfl) ?_
  refine nZ35 ?_
  refine mixz_p rfl ?_
  refine mix1_val (fun wz hz => ex_fieldAddr fl28_5 rfl) ?_
  refine mixz_p rfl ?_
  refine mix1_val (fun wz hz => ex_move rfl) ?_
  refine mixz_p rfl ?_
  refine mix1_val (fun wz hz => ex_nilCheck rfl) ?_
  refine nZ35 ?_
  refine mixz_p rfl ?_
  refine mix1_val (fun wz hz => ex_fieldAddr fl28_6 rfl) ?_
  refine mixz_o rfl ?_
  refine ops_buildSlice Tryz.underlying130 ty82 H6 rfl (by decide) rfl ?_
  intro w7 g7 H7 hg7
  refine ops_nil ?_
  refine ⟨fun hne => H7.pick [0, 1, 2, 3] (by decide), ?_⟩
  refine nZ35 ?_
  refine mixz_o rfl ?_
  refine ops_call (ex_call gf45 rfl) (HS.grp (q := 5) (vnums_R gp gr gb cb sb b hcb hbl) (by decide) H7 (by decide) (show o + 5 + 2 ≤ _ by omega) (At.cast (hat.trans (At.sub _ 5 2)) rfl) rfl rfl) ?_
  rintro _ w8 ⟨us, i1, e1, HS⟩
  replace HS := HS.join1
  have H8 := HS.H.here
  refine ops_nil ?_
  refine ⟨fun hne => absurd rfl hne, ?_⟩
  refine nZ35 ?_
  refine mixz_nil ?_
  refine nR35 ?_
  refine run_nil ?_
  refine fin_end0 rfl ?_
  exact HS.out
theorem vplan_R : WalkR Tryz.prog 54 thplan := vplan_r
set_option maxRecDepth 100000 in
set_option maxHeartbeats 4000000 in
theorem vholder_w (gp go o : Nat) (g : Option Nat) (cap : Nat) (sp : List Value) (st : WS) (U : TypeId) (cs : List Value) (x : thholder.X) (vs : List Value) (w0 : World) (m : Nat) (a : WS) (H0 : Hp w0 w0 (bl (vwo gp g cap sp st go U cs)) (vwo gp g cap sp st go U cs)) (hm : m + thholder.mx ≤ 1000000000) (hP : POk m g cap sp st) (ha : Alike a st) (hM : thholder.M w0 (fun b => b ∉ bl (vwo gp g cap sp st go U cs)) x vs) (hat : At cs o vs) :
    Does Tryz.prog 110 #[.pointer (some ⟨gp, 0, none⟩), .pointer (some ⟨go, o, none⟩)] w0 (fun _ w' => VwOut (m + thholder.mx) gp (wAll (thholder.fl x) a) go U cs w0 (bl (vwo gp g cap sp st go U cs)) w') := by
  refine does_of Tryz.func110 Tryz.ntmps110 rfl ?_
  refine nR19 ?_
  change m + 262180 ≤ 1000000000 at hm
  have HS : VSt gp go o w0 (bl (vwo gp g cap sp st go U cs)) w0 (m + 0) a st thholder x vs U cs g cap sp := ⟨H0, hP, ha, hM, hat⟩
  have H := HS.H.here
  refine run_mixZ 14 [(true, 0), (true, 1), (true, 2), (true, 3), (true, 4), (true, 5), (true, 6), (true, 7), (true, 8), (true, 9), (true, 10), (true, 11), (true, 12), (false, 13), (false, 14)] H [0, 1, 2] mixed (by decide) (by kernel_rfl) ?_
  rintro w1 hw1
  have H1 := Hp.drew H; rw [← hw1] at H1
  refine mixz_p rfl ?_
  refine mix1_val (fun wz hz => ex_move rfl) ?_
  refine mixz_p rfl ?_
  refine mix1_val (fun wz hz => ex_move rfl) ?_
  refine mixz_p rfl ?_
  refine mix1_val (fun wz hz => ex_nilCheck rfl) ?_
  refine nZ19 ?_
  refine mixz_p rfl ?_
  refine mix1_val (fun wz hz => ex_fieldAddr fl141_0 rfl) ?_
  refine mixz_p rfl ?_
  refine mix1_val (fun wz hz => ex_move rfl) ?_
  refine mixz_p rfl ?_
  refine mix1_val (fun wz hz => ex_nilCheck rfl) ?_
  refine nZ19 ?_
  refine mixz_p rfl ?_
  refine mix1_val (fun wz hz => ex_fieldAddr fl141_1 rfl) ?_
  refine mixz_p rfl ?_
  refine mix1_val (fun wz hz => ex_move rfl) ?_
  refine mixz_p rfl ?_
  refine mix1_val (fun wz hz => ex_nilCheck rfl) ?_
  refine nZ19 ?_
  refine mixz_p rfl ?_
  refine mix1_val (fun wz hz => ex_fieldAddr fl141_2 rfl) ?_
  refine mixz_p rfl ?_
  refine mix1_val (fun wz hz => ex_move rfl) ?_
  refine mixz_p rfl ?_
  refine mix1_val (fun wz hz => ex_nilCheck rfl) ?_
  refine nZ19 ?_
  refine mixz_p rfl ?_
  refine mix1_val (fun wz hz => ex_fieldAddr fl141_3 rfl) ?_
  refine mixz_o rfl ?_
  refine ops_buildSlice Tryz.underlying130 ty82 H1 rfl (by decide) rfl ?_
  intro w2 g2 H2 hg2
  refine ops_nil ?_
  refine ⟨fun hne => H2.pick [0, 1, 2] (by decide), ?_⟩
  refine nZ19 ?_
  refine mixz_o rfl ?_
  refine ops_call (ex_call gf45 rfl) (HS.grp (p := 0) vnums_W H2 (by decide) (show m + 0 + 262180 ≤ _ by omega) (fun _ _ hM => (Th.part hM 0 4)) (At.cast (At.trans (At.self _) (At.sub _ 0 4)) (by decide))) ?_
  rintro _ w3 ⟨st, g, cap, sp, HS0⟩
  have HS := VSt.re HS0 (m2 := m + 262180) (by show m + 0 + 262180 = m + 262180; omega)
  have H3 := HS.H.here
  refine ops_nil ?_
  refine ⟨fun hne => absurd rfl hne, ?_⟩
  refine nZ19 ?_
  refine mixz_nil ?_
  refine nR19 ?_
  refine run_nil ?_
  refine fin_end0 rfl ?_
  have hw0 : List.take 4 x = x := Th.whole hM
  refine HS.out2 ?_ rfl
  show _ = wAll (x) a
  simp only [List.drop_zero, wAll_part, wAll_append, Nat.reduceAdd, hw0]
theorem vholder_W : WalkW Tryz.prog 110 thholder := vholder_w
set_option maxRecDepth 100000 in
set_option maxHeartbeats 4000000 in
theorem vholder_r (gp gr : Nat) (gb : Option Nat) (cb : Nat) (sb : List Value) (b : List UInt8) (hcb : b.length ≤ cb) (hbl : b.length ≤ 65536) (go o i e : Nat) (U : TypeId) (cs : List Value) (w0 : World) (H0 : Hp w0 w0 (bl (vr gp gr gb cb sb b i e ++ [(some go, U, cs)])) (vr gp gr gb cb sb b i e ++ [(some go, U, cs)])) (hi : i ≤ b.length) (hat : At cs o thholder.zs) (hfit : o + thholder.sz ≤ cs.length) :
    Does Tryz.prog 110 #[.pointer (some ⟨gp, 0, none⟩), .pointer (some ⟨go, o, none⟩)] w0 (fun _ w' => RdOut (vr gp gr gb cb sb b) thholder go o U cs b i e w0.heap.size w0 (bl (vr gp gr gb cb sb b i e ++ [(some go, U, cs)])) w') := by
  refine does_of Tryz.func110 Tryz.ntmps110 rfl ?_
  refine nR19 ?_
  change o + 4 ≤ cs.length at hfit
  have HS := RSt.start (R := vr gp gr gb cb sb b) (o := o) H0 hi
  have H := HS.H.here
  refine run_mixZ 14 [(true, 0), (true, 1), (true, 2), (true, 3), (true, 4), (true, 5), (true, 6), (true, 7), (true, 8), (true, 9), (true, 10), (true, 11), (true, 12), (false, 13), (false, 14)] H [0, 1, 2, 3] mixed (by decide) (by kernel_rfl) ?_
  rintro w1 hw1
  have H1 := Hp.drew H; rw [← hw1] at H1
  refine mixz_p rfl ?_
  refine mix1_val (fun wz hz => ex_move rfl) ?_
  refine mixz_p rfl ?_
  refine mix1_val (fun wz hz => ex_move rfl) ?_
  refine mixz_p rfl ?_
  refine mix1_val (fun wz hz => ex_nilCheck rfl) ?_
  refine nZ19 ?_
  refine mixz_p rfl ?_
  refine mix1_val (fun wz hz => ex_fieldAddr fl141_0 rfl) ?_
  refine mixz_p rfl ?_
  refine mix1_val (fun wz hz => ex_move rfl) ?_
  refine mixz_p rfl ?_
  refine mix1_val (fun wz hz => ex_nilCheck rfl) ?_
  refine nZ19 ?_
  refine mixz_p rfl ?_
  refine mix1_val (fun wz hz => ex_fieldAddr fl141_1 rfl) ?_
  refine mixz_p rfl ?_
  refine mix1_val (fun wz hz => ex_move rfl) ?_
  refine mixz_p rfl ?_
  refine mix1_val (fun wz hz => ex_nilCheck rfl) ?_
  refine nZ19 ?_
  refine mixz_p rfl ?_
  refine mix1_val (fun wz hz => ex_fieldAddr fl141_2 rfl) ?_
  refine mixz_p rfl ?_
  refine mix1_val (fun wz hz => ex_move rfl) ?_
  refine mixz_p rfl ?_
  refine mix1_val (fun wz hz => ex_nilCheck rfl) ?_
  refine nZ19 ?_
  refine mixz_p rfl ?_
  refine mix1_val (fun wz hz => ex_fieldAddr fl141_3 rfl) ?_
  refine mixz_o rfl ?_
  refine ops_buildSlice Tryz.underlying130 ty82 H1 rfl (by decide) rfl ?_
  intro w2 g2 H2 hg2
  refine ops_nil ?_
  refine ⟨fun hne => H2.pick [0, 1, 2, 3] (by decide), ?_⟩
  refine nZ19 ?_
  refine mixz_o rfl ?_
  refine ops_call (ex_call gf45 rfl) (HS.grp (q := 0) (vnums_R gp gr gb cb sb b hcb hbl) (by decide) H2 (by decide) (show o + 0 + 4 ≤ _ by omega) (At.cast (hat.trans (At.sub _ 0 4)) rfl) rfl rfl) ?_
  rintro _ w3 ⟨us, i1, e1, HS⟩
  replace HS := HS.join1
  have H3 := HS.H.here
  refine ops_nil ?_
  refine ⟨fun hne => absurd rfl hne, ?_⟩
  refine nZ19 ?_
  refine mixz_nil ?_
  refine nR19 ?_
  refine run_nil ?_
  refine fin_end0 rfl ?_
  exact HS.out
theorem vholder_R : WalkR Tryz.prog 110 thholder := vholder_r
set_option maxRecDepth 100000 in
set_option maxHeartbeats 4000000 in
theorem vwait_w (gp go o : Nat) (g : Option Nat) (cap : Nat) (sp : List Value) (st : WS) (U : TypeId) (cs : List Value) (x : thwait.X) (vs : List Value) (w0 : World) (m : Nat) (a : WS) (H0 : Hp w0 w0 (bl (vwo gp g cap sp st go U cs)) (vwo gp g cap sp st go U cs)) (hm : m + thwait.mx ≤ 1000000000) (hP : POk m g cap sp st) (ha : Alike a st) (hM : thwait.M w0 (fun b => b ∉ bl (vwo gp g cap sp st go U cs)) x vs) (hat : At cs o vs) :
    Does Tryz.prog 83 #[.pointer (some ⟨gp, 0, none⟩), .pointer (some ⟨go, o, none⟩)] w0 (fun _ w' => VwOut (m + thwait.mx) gp (wAll (thwait.fl x) a) go U cs w0 (bl (vwo gp g cap sp st go U cs)) w') := by
  refine does_of Tryz.func83 Tryz.ntmps83 rfl ?_
  refine nR27 ?_
  change m + 720995 ≤ 1000000000 at hm
  have HS : VSt gp go o w0 (bl (vwo gp g cap sp st go U cs)) w0 (m + 0) a st thwait x vs U cs g cap sp := ⟨H0, hP, ha, hM, hat⟩
  have H := HS.H.here
  refine run_seq ?_
  refine run_mixZ 17 [(true, 0), (true, 1), (true, 2), (true, 3), (true, 4), (true, 5), (true, 6), (true, 7), (true, 8), (true, 9), (true, 10), (true, 11), (true, 12), (true, 13), (true, 14), (true, 15), (false, 16), (false, 17)] H [0, 1, 2] mixed (by decide) (by kernel_rfl) ?_
  rintro w1 hw1
  have H1 := Hp.drew H; rw [← hw1] at H1
  refine mixz_p rfl ?_
  refine mix1_val (fun wz hz => ex_move rfl) ?_
  refine mixz_p rfl ?_
  refine mix1_val (fun wz hz => ex_move rfl) ?_
  refine mixz_p rfl ?_
  refine mix1_val (fun wz hz => ex_nilCheck rfl) ?_
  refine nZ27 ?_
  refine mixz_p rfl ?_
  refine mix1_val (fun wz hz => ex_fieldAddr fl71_0 rfl) ?_
  refine mixz_p rfl ?_
  refine mix1_val (fun wz hz => ex_move rfl) ?_
  refine mixz_p rfl ?_
  refine mix1_val (fun wz hz => ex_nilCheck rfl) ?_
  refine nZ27 ?_
  refine mixz_p rfl ?_
  refine mix1_val (fun wz hz => ex_fieldAddr fl71_1 rfl) ?_
  refine mixz_p rfl ?_
  refine mix1_val (fun wz hz => ex_move rfl) ?_
  refine mixz_p rfl ?_
  refine mix1_val (fun wz hz => ex_nilCheck rfl) ?_
  refine nZ27 ?_
  refine mixz_p rfl ?_
  refine mix1_val (fun wz hz => ex_fieldAddr fl71_2 rfl) ?_
  refine mixz_p rfl ?_
  refine mix1_val (fun wz hz => ex_move rfl) ?_
  refine mixz_p rfl ?_
  refine mix1_val (fun wz hz => ex_nilCheck rfl) ?_
  refine nZ27 ?_
  refine mixz_p rfl ?_
  refine mix1_val (fun wz hz => ex_fieldAddr fl71_3 rfl) ?_
  refine mixz_p rfl ?_
  refine mix1_val (fun wz hz => ex_move rfl) ?_
  refine mixz_p rfl ?_
  refine mix1_val (fun wz hz => ex_nilCheck rfl) ?_
  refine nZ27 ?_
  refine mixz_p rfl ?_
  refine mix1_val (fun wz hz => ex_fieldAddr fl71_4 rfl) ?_
  refine mixz_o rfl ?_
  refine ops_buildSlice Tryz.underlying130 ty82 H1 rfl (by decide) rfl ?_
  intro w2 g2 H2 hg2
  refine ops_nil ?_
  refine ⟨fun hne => H2.pick [0, 1, 2] (by decide), ?_⟩
  refine nZ27 ?_
  refine mixz_o rfl ?_
  refine ops_call (ex_call gf45 rfl) (HS.grp (p := 0) vnums_W H2 (by decide) (show m + 0 + 327725 ≤ _ by omega) (fun _ _ hM => (Th.part hM 0 5)) (At.cast (At.trans (At.self _) (At.sub _ 0 5)) (by decide))) ?_
  rintro _ w3 ⟨st, g, cap, sp, HS0⟩
  have HS := VSt.re HS0 (m2 := m + 327725) (by show m + 0 + 327725 = m + 327725; omega)
  have H3 := HS.H.here
  refine ops_nil ?_
  refine ⟨fun hne => absurd rfl hne, ?_⟩
  refine nZ27 ?_
  refine mixz_nil ?_
  refine nR27 ?_
  refine run_region ?_
  refine ops_val (ex_move rfl) ?_
  refine ops_val (ex_move rfl) ?_
  refine ops_val (ex_nilCheck rfl) ?_
  refine nO27 ?_
  refine ops_val (ex_fieldAddr fl71_5 rfl) ?_
  refine ops_call (ex_call gf106 rfl) (HS.one (p := 5) vop_W (show m + 327725 + 393270 ≤ _ by omega) (fun _ _ hM => (Th.part hM 5 6)) (At.cast (At.trans (At.self _) (At.sub _ 5 6)) (by decide))) ?_
  rintro _ w4 ⟨st, g, cap, sp, HS0⟩
  have HS := VSt.re HS0 (m2 := m + 720995) (by show m + 327725 + 393270 = m + 720995; omega)
  have H4 := HS.H.here
  refine ops_nil ?_
  refine nR27 ?_
  refine run_nil ?_
  refine fin_end0 rfl ?_
  have hw0 : List.take 11 x = x := Th.whole hM
  refine HS.out2 ?_ rfl
  show _ = wAll (x) a
  simp only [List.drop_zero, wAll_part, wAll_append, Nat.reduceAdd, hw0]
theorem vwait_W : WalkW Tryz.prog 83 thwait := vwait_w
set_option maxRecDepth 100000 in
set_option maxHeartbeats 4000000 in
theorem vwait_r (gp gr : Nat) (gb : Option Nat) (cb : Nat) (sb : List Value) (b : List UInt8) (hcb : b.length ≤ cb) (hbl : b.length ≤ 65536) (go o i e : Nat) (U : TypeId) (cs : List Value) (w0 : World) (H0 : Hp w0 w0 (bl (vr gp gr gb cb sb b i e ++ [(some go, U, cs)])) (vr gp gr gb cb sb b i e ++ [(some go, U, cs)])) (hi : i ≤ b.length) (hat : At cs o thwait.zs) (hfit : o + thwait.sz ≤ cs.length) :
    Does Tryz.prog 83 #[.pointer (some ⟨gp, 0, none⟩), .pointer (some ⟨go, o, none⟩)] w0 (fun _ w' => RdOut (vr gp gr gb cb sb b) thwait go o U cs b i e w0.heap.size w0 (bl (vr gp gr gb cb sb b i e ++ [(some go, U, cs)])) w') := by
  refine does_of Tryz.func83 Tryz.ntmps83 rfl ?_
  refine nR27 ?_
  change o + 11 ≤ cs.length at hfit
  have HS := RSt.start (R := vr gp gr gb cb sb b) (o := o) H0 hi
  have H := HS.H.here
  refine run_seq ?_
  refine run_mixZ 17 [(true, 0), (true, 1), (true, 2), (true, 3), (true, 4), (true, 5), (true, 6), (true, 7), (true, 8), (true, 9), (true, 10), (true, 11), (true, 12), (true, 13), (true, 14), (true, 15), (false, 16), (false, 17)] H [0, 1, 2, 3] mixed (by decide) (by kernel_rfl) ?_
  rintro w1 hw1
  have H1 := Hp.drew H; rw [← hw1] at H1
  refine mixz_p rfl ?_
  refine mix1_val (fun wz hz => ex_move rfl) ?_
  refine mixz_p rfl ?_
  refine mix1_val (fun wz hz => ex_move rfl) ?_
  refine mixz_p rfl ?_
  refine mix1_val (fun wz hz => ex_nilCheck rfl) ?_
  refine nZ27 ?_
  refine mixz_p rfl ?_
  refine mix1_val (fun wz hz => ex_fieldAddr fl71_0 rfl) ?_
  refine mixz_p rfl ?_
  refine mix1_val (fun wz hz => ex_move rfl) ?_
  refine mixz_p rfl ?_
  refine mix1_val (fun wz hz => ex_nilCheck rfl) ?_
  refine nZ27 ?_
  refine mixz_p rfl ?_
  refine mix1_val (fun wz hz => ex_fieldAddr fl71_1 rfl) ?_
  refine mixz_p rfl ?_
  refine mix1_val (fun wz hz => ex_move rfl) ?_
  refine mixz_p rfl ?_
  refine mix1_val (fun wz hz => ex_nilCheck rfl) ?_
  refine nZ27 ?_
  refine mixz_p rfl ?_
  refine mix1_val (fun wz hz => ex_fieldAddr fl71_2 rfl) ?_
  refine mixz_p rfl ?_
  refine mix1_val (fun wz hz => ex_move rfl) ?_
  refine mixz_p rfl ?_
  refine mix1_val (fun wz hz => ex_nilCheck rfl) ?_
  refine nZ27 ?_
  refine mixz_p rfl ?_
  refine mix1_val (fun wz hz => ex_fieldAddr fl71_3 rfl) ?_
  refine mixz_p rfl ?_
  refine mix1_val (fun wz hz => ex_move rfl) ?_
  refine mixz_p rfl ?_
  refine mix1_val (fun wz hz => ex_nilCheck rfl) ?_
  refine nZ27 ?_
  refine mixz_p rfl ?_
  refine mix1_val (fun wz hz => ex_fieldAddr fl71_4 rfl) ?_
  refine mixz_o rfl ?_
  refine ops_buildSlice Tryz.underlying130 ty82 H1 rfl (by decide) rfl ?_
  intro w2 g2 H2 hg2
  refine ops_nil ?_
  refine ⟨fun hne => H2.pick [0, 1, 2, 3] (by decide), ?_⟩
  refine nZ27 ?_
  refine mixz_o rfl ?_
  refine ops_call (ex_call gf45 rfl) (HS.grp (q := 0) (vnums_R gp gr gb cb sb b hcb hbl) (by decide) H2 (by decide) (show o + 0 + 5 ≤ _ by omega) (At.cast (hat.trans (At.sub _ 0 5)) rfl) rfl rfl) ?_
  rintro _ w3 ⟨us, i1, e1, HS⟩
  replace HS := HS.join1
  have H3 := HS.H.here
  refine ops_nil ?_
  refine ⟨fun hne => absurd rfl hne, ?_⟩
  refine nZ27 ?_
  refine mixz_nil ?_
  refine nR27 ?_
  refine run_region ?_
  refine ops_val (ex_move rfl) ?_
  refine ops_val (ex_move rfl) ?_
  refine ops_val (ex_nilCheck rfl) ?_
  refine nO27 ?_
  refine ops_val (ex_fieldAddr fl71_5 rfl) ?_
  refine ops_call (ex_call gf106 rfl) (HS.one (q := 5) (vop_R gp gr gb cb sb b hcb hbl) (by decide) (show o + 5 + 6 ≤ _ by omega) (At.cast (hat.trans (At.sub _ 5 6)) rfl)) ?_
  rintro _ w4 ⟨us, i1, e1, HS⟩
  replace HS := HS.join1
  have H4 := HS.H.here
  refine ops_nil ?_
  refine nR27 ?_
  refine run_nil ?_
  refine fin_end0 rfl ?_
  exact HS.out
theorem vwait_R : WalkR Tryz.prog 83 thwait := vwait_r
set_option maxRecDepth 100000 in
set_option maxHeartbeats 4000000 in
theorem vdeal_w (gp go o : Nat) (g : Option Nat) (cap : Nat) (sp : List Value) (st : WS) (U : TypeId) (cs : List Value) (x : thdeal.X) (vs : List Value) (w0 : World) (m : Nat) (a : WS) (H0 : Hp w0 w0 (bl (vwo gp g cap sp st go U cs)) (vwo gp g cap sp st go U cs)) (hm : m + thdeal.mx ≤ 1000000000) (hP : POk m g cap sp st) (ha : Alike a st) (hM : thdeal.M w0 (fun b => b ∉ bl (vwo gp g cap sp st go U cs)) x vs) (hat : At cs o vs) :
    Does Tryz.prog 84 #[.pointer (some ⟨gp, 0, none⟩), .pointer (some ⟨go, o, none⟩)] w0 (fun _ w' => VwOut (m + thdeal.mx) gp (wAll (thdeal.fl x) a) go U cs w0 (bl (vwo gp g cap sp st go U cs)) w') := by
  refine does_of Tryz.func84 Tryz.ntmps84 rfl ?_
  refine nR38 ?_
  change m + 524360 ≤ 1000000000 at hm
  have HS : VSt gp go o w0 (bl (vwo gp g cap sp st go U cs)) w0 (m + 0) a st thdeal x vs U cs g cap sp := ⟨H0, hP, ha, hM, hat⟩
  have H := HS.H.here
  refine run_seq ?_
  refine run_mixZ 8 [(true, 0), (true, 1), (true, 2), (true, 3), (true, 4), (true, 5), (true, 6), (false, 7), (false, 8)] H [0, 1, 2] mixed (by decide) (by kernel_rfl) ?_
  rintro w1 hw1
  have H1 := Hp.drew H; rw [← hw1] at H1
  refine mixz_p rfl ?_
  refine mix1_val (fun wz hz => ex_move rfl) ?_
  refine mixz_p rfl ?_
  refine mix1_val (fun wz hz => ex_move rfl) ?_
  refine mixz_p rfl ?_
  refine mix1_val (fun wz hz => ex_nilCheck rfl) ?_
  refine nZ38 ?_
  refine mixz_p rfl ?_
  refine mix1_val (fun wz hz => ex_fieldAddr fl74_0 rfl) ?_
  refine mixz_p rfl ?_
  refine mix1_val (fun wz hz => ex_move rfl) ?_
  refine mixz_p rfl ?_
  refine mix1_val (fun wz hz => ex_nilCheck rfl) ?_
  refine nZ38 ?_
  refine mixz_p rfl ?_
  refine mix1_val (fun wz hz => ex_fieldAddr fl74_1 rfl) ?_
  refine mixz_o rfl ?_
  refine ops_buildSlice Tryz.underlying130 ty82 H1 rfl (by decide) rfl ?_
  intro w2 g2 H2 hg2
  refine ops_nil ?_
  refine ⟨fun hne => H2.pick [0, 1, 2] (by decide), ?_⟩
  refine nZ38 ?_
  refine mixz_o rfl ?_
  refine ops_call (ex_call gf45 rfl) (HS.grp (p := 0) vnums_W H2 (by decide) (show m + 0 + 131090 ≤ _ by omega) (fun _ _ hM => (Th.part hM 0 2)) (At.cast (At.trans (At.self _) (At.sub _ 0 2)) (by decide))) ?_
  rintro _ w3 ⟨st, g, cap, sp, HS0⟩
  have HS := VSt.re HS0 (m2 := m + 131090) (by show m + 0 + 131090 = m + 131090; omega)
  have H3 := HS.H.here
  refine ops_nil ?_
  refine ⟨fun hne => absurd rfl hne, ?_⟩
  refine nZ38 ?_
  refine mixz_nil ?_
  refine nR38 ?_
  refine run_seq ?_
  refine run_region ?_
  refine ops_val (ex_move rfl) ?_
  refine ops_val (ex_move rfl) ?_
  refine ops_val (ex_nilCheck rfl) ?_
  refine nO38 ?_
  refine ops_val (ex_fieldAddr fl74_2 rfl) ?_
  refine ops_call (ex_call gf47 rfl) (HS.one (p := 2) vtext_W (show m + 131090 + 65545 ≤ _ by omega) (fun _ _ hM => (Th.part hM 2 1)) (At.cast (At.trans (At.self _) (At.sub _ 2 1)) (by decide))) ?_
  rintro _ w4 ⟨st, g, cap, sp, HS0⟩
  have HS := VSt.re HS0 (m2 := m + 196635) (by show m + 131090 + 65545 = m + 196635; omega)
  have H4 := HS.H.here
  refine ops_nil ?_
  refine nR38 ?_
  refine run_seq ?_
  refine run_region ?_
  refine ops_val (ex_move rfl) ?_
  refine ops_val (ex_move rfl) ?_
  refine ops_val (ex_nilCheck rfl) ?_
  refine nO38 ?_
  refine ops_val (ex_fieldAddr fl74_3 rfl) ?_
  refine ops_call (ex_call gf47 rfl) (HS.one (p := 3) vtext_W (show m + 196635 + 65545 ≤ _ by omega) (fun _ _ hM => (Th.part hM 3 1)) (At.cast (At.trans (At.self _) (At.sub _ 3 1)) (by decide))) ?_
  rintro _ w5 ⟨st, g, cap, sp, HS0⟩
  have HS := VSt.re HS0 (m2 := m + 262180) (by show m + 196635 + 65545 = m + 262180; omega)
  have H5 := HS.H.here
  refine ops_nil ?_
  refine nR38 ?_
  refine run_mixZ 14 [(true, 0), (true, 1), (true, 2), (true, 3), (true, 4), (true, 5), (true, 6), (true, 7), (true, 8), (true, 9), (true, 10), (true, 11), (true, 12), (false, 13), (false, 14)] H5 [0, 1, 2] mixed (by decide) (by kernel_rfl) ?_
  rintro w6 hw6
  have H6 := Hp.drew H5; rw [← hw6] at H6
  refine mixz_p rfl ?_
  refine mix1_val (fun wz hz => ex_move rfl) ?_
  refine mixz_p rfl ?_
  refine mix1_val (fun wz hz => ex_move rfl) ?_
  refine mixz_p rfl ?_
  refine mix1_val (fun wz hz => ex_nilCheck rfl) ?_
  refine nZ38 ?_
  refine mixz_p rfl ?_
  refine mix1_val (fun wz hz => ex_fieldAddr fl74_4 rfl) ?_
  refine mixz_p rfl ?_
  refine mix1_val (fun wz hz => ex_move rfl) ?_
  refine mixz_p rfl ?_
  refine mix1_val (fun wz hz => ex_nilCheck rfl) ?_
  refine nZ38 ?_
  refine mixz_p rfl ?_
  refine mix1_val (fun wz hz => ex_fieldAddr fl74_5 rfl) ?_
  refine mixz_p rfl ?_
  refine mix1_val (fun wz hz => ex_move rfl) ?_
  refine mixz_p rfl ?_
  refine mix1_val (fun wz hz => ex_nilCheck rfl) ?_
  refine nZ38 ?_
  refine mixz_p rfl ?_
  refine mix1_val (fun wz hz => ex_fieldAddr fl74_6 rfl) ?_
  refine mixz_p rfl ?_
  refine mix1_val (fun wz hz => ex_move rfl) ?_
  refine mixz_p rfl ?_
  refine mix1_val (fun wz hz => ex_nilCheck rfl) ?_
  refine nZ38 ?_
  refine mixz_p rfl ?_
  refine mix1_val (fun wz hz => ex_fieldAddr fl74_7 rfl) ?_
  refine mixz_o rfl ?_
  refine ops_buildSlice Tryz.underlying130 ty82 H6 rfl (by decide) rfl ?_
  intro w7 g7 H7 hg7
  refine ops_nil ?_
  refine ⟨fun hne => H7.pick [0, 1, 2] (by decide), ?_⟩
  refine nZ38 ?_
  refine mixz_o rfl ?_
  refine ops_call (ex_call gf45 rfl) (HS.grp (p := 4) vnums_W H7 (by decide) (show m + 262180 + 262180 ≤ _ by omega) (fun _ _ hM => (Th.part hM 4 4)) (At.cast (At.trans (At.self _) (At.sub _ 4 4)) (by decide))) ?_
  rintro _ w8 ⟨st, g, cap, sp, HS0⟩
  have HS := VSt.re HS0 (m2 := m + 524360) (by show m + 262180 + 262180 = m + 524360; omega)
  have H8 := HS.H.here
  refine ops_nil ?_
  refine ⟨fun hne => absurd rfl hne, ?_⟩
  refine nZ38 ?_
  refine mixz_nil ?_
  refine nR38 ?_
  refine run_nil ?_
  refine fin_end0 rfl ?_
  have hw0 : List.take 8 x = x := Th.whole hM
  refine HS.out2 ?_ rfl
  show _ = wAll (x) a
  simp only [List.drop_zero, wAll_part, wAll_append, Nat.reduceAdd, hw0]
theorem vdeal_W : WalkW Tryz.prog 84 thdeal := vdeal_w
set_option maxRecDepth 100000 in
set_option maxHeartbeats 4000000 in
theorem vdeal_r (gp gr : Nat) (gb : Option Nat) (cb : Nat) (sb : List Value) (b : List UInt8) (hcb : b.length ≤ cb) (hbl : b.length ≤ 65536) (go o i e : Nat) (U : TypeId) (cs : List Value) (w0 : World) (H0 : Hp w0 w0 (bl (vr gp gr gb cb sb b i e ++ [(some go, U, cs)])) (vr gp gr gb cb sb b i e ++ [(some go, U, cs)])) (hi : i ≤ b.length) (hat : At cs o thdeal.zs) (hfit : o + thdeal.sz ≤ cs.length) :
    Does Tryz.prog 84 #[.pointer (some ⟨gp, 0, none⟩), .pointer (some ⟨go, o, none⟩)] w0 (fun _ w' => RdOut (vr gp gr gb cb sb b) thdeal go o U cs b i e w0.heap.size w0 (bl (vr gp gr gb cb sb b i e ++ [(some go, U, cs)])) w') := by
  refine does_of Tryz.func84 Tryz.ntmps84 rfl ?_
  refine nR38 ?_
  change o + 8 ≤ cs.length at hfit
  have HS := RSt.start (R := vr gp gr gb cb sb b) (o := o) H0 hi
  have H := HS.H.here
  refine run_seq ?_
  refine run_mixZ 8 [(true, 0), (true, 1), (true, 2), (true, 3), (true, 4), (true, 5), (true, 6), (false, 7), (false, 8)] H [0, 1, 2, 3] mixed (by decide) (by kernel_rfl) ?_
  rintro w1 hw1
  have H1 := Hp.drew H; rw [← hw1] at H1
  refine mixz_p rfl ?_
  refine mix1_val (fun wz hz => ex_move rfl) ?_
  refine mixz_p rfl ?_
  refine mix1_val (fun wz hz => ex_move rfl) ?_
  refine mixz_p rfl ?_
  refine mix1_val (fun wz hz => ex_nilCheck rfl) ?_
  refine nZ38 ?_
  refine mixz_p rfl ?_
  refine mix1_val (fun wz hz => ex_fieldAddr fl74_0 rfl) ?_
  refine mixz_p rfl ?_
  refine mix1_val (fun wz hz => ex_move rfl) ?_
  refine mixz_p rfl ?_
  refine mix1_val (fun wz hz => ex_nilCheck rfl) ?_
  refine nZ38 ?_
  refine mixz_p rfl ?_
  refine mix1_val (fun wz hz => ex_fieldAddr fl74_1 rfl) ?_
  refine mixz_o rfl ?_
  refine ops_buildSlice Tryz.underlying130 ty82 H1 rfl (by decide) rfl ?_
  intro w2 g2 H2 hg2
  refine ops_nil ?_
  refine ⟨fun hne => H2.pick [0, 1, 2, 3] (by decide), ?_⟩
  refine nZ38 ?_
  refine mixz_o rfl ?_
  refine ops_call (ex_call gf45 rfl) (HS.grp (q := 0) (vnums_R gp gr gb cb sb b hcb hbl) (by decide) H2 (by decide) (show o + 0 + 2 ≤ _ by omega) (At.cast (hat.trans (At.sub _ 0 2)) rfl) rfl rfl) ?_
  rintro _ w3 ⟨us, i1, e1, HS⟩
  replace HS := HS.join1
  have H3 := HS.H.here
  refine ops_nil ?_
  refine ⟨fun hne => absurd rfl hne, ?_⟩
  refine nZ38 ?_
  refine mixz_nil ?_
  refine nR38 ?_
  refine run_seq ?_
  refine run_region ?_
  refine ops_val (ex_move rfl) ?_
  refine ops_val (ex_move rfl) ?_
  refine ops_val (ex_nilCheck rfl) ?_
  refine nO38 ?_
  refine ops_val (ex_fieldAddr fl74_2 rfl) ?_
  refine ops_call (ex_call gf47 rfl) (HS.one (q := 2) (vtext_R gp gr gb cb sb b hcb hbl) (by decide) (show o + 2 + 1 ≤ _ by omega) (At.cast (hat.trans (At.sub _ 2 1)) rfl)) ?_
  rintro _ w4 ⟨us, i1, e1, HS⟩
  replace HS := HS.join1
  have H4 := HS.H.here
  refine ops_nil ?_
  refine nR38 ?_
  refine run_seq ?_
  refine run_region ?_
  refine ops_val (ex_move rfl) ?_
  refine ops_val (ex_move rfl) ?_
  refine ops_val (ex_nilCheck rfl) ?_
  refine nO38 ?_
  refine ops_val (ex_fieldAddr fl74_3 rfl) ?_
  refine ops_call (ex_call gf47 rfl) (HS.one (q := 3) (vtext_R gp gr gb cb sb b hcb hbl) (by decide) (show o + 3 + 1 ≤ _ by omega) (At.cast (hat.trans (At.sub _ 3 1)) rfl)) ?_
  rintro _ w5 ⟨us, i1, e1, HS⟩
  replace HS := HS.join1
  have H5 := HS.H.here
  refine ops_nil ?_
  refine nR38 ?_
  refine run_mixZ 14 [(true, 0), (true, 1), (true, 2), (true, 3), (true, 4), (true, 5), (true, 6), (true, 7), (true, 8), (true, 9), (true, 10), (true, 11), (true, 12), (false, 13), (false, 14)] H5 [0, 1, 2, 3] mixed (by decide) (by kernel_rfl) ?_
  rintro w6 hw6
  have H6 := Hp.drew H5; rw [← hw6] at H6
  refine mixz_p rfl ?_
  refine mix1_val (fun wz hz => ex_move rfl) ?_
  refine mixz_p rfl ?_
  refine mix1_val (fun wz hz => ex_move rfl) ?_
  refine mixz_p rfl ?_
  refine mix1_val (fun wz hz => ex_nilCheck rfl) ?_
  refine nZ38 ?_
  refine mixz_p rfl ?_
  refine mix1_val (fun wz hz => ex_fieldAddr fl74_4 rfl) ?_
  refine mixz_p rfl ?_
  refine mix1_val (fun wz hz => ex_move rfl) ?_
  refine mixz_p rfl ?_
  refine mix1_val (fun wz hz => ex_nilCheck rfl) ?_
  refine nZ38 ?_
  refine mixz_p rfl ?_
  refine mix1_val (fun wz hz => ex_fieldAddr fl74_5 rfl) ?_
  refine mixz_p rfl ?_
  refine mix1_val (fun wz hz => ex_move rfl) ?_
  refine mixz_p rfl ?_
  refine mix1_val (fun wz hz => ex_nilCheck rfl) ?_
  refine nZ38 ?_
  refine mixz_p rfl ?_
  refine mix1_val (fun wz hz => ex_fieldAddr fl74_6 rfl) ?_
  refine mixz_p rfl ?_
  refine mix1_val (fun wz hz => ex_move rfl) ?_
  refine mixz_p rfl ?_
  refine mix1_val (fun wz hz => ex_nilCheck rfl) ?_
  refine nZ38 ?_
  refine mixz_p rfl ?_
  refine mix1_val (fun wz hz => ex_fieldAddr fl74_7 rfl) ?_
  refine mixz_o rfl ?_
  refine ops_buildSlice Tryz.underlying130 ty82 H6 rfl (by decide) rfl ?_
  intro w7 g7 H7 hg7
  refine ops_nil ?_
  refine ⟨fun hne => H7.pick [0, 1, 2, 3] (by decide), ?_⟩
  refine nZ38 ?_
  refine mixz_o rfl ?_
  refine ops_call (ex_call gf45 rfl) (HS.grp (q := 4) (vnums_R gp gr gb cb sb b hcb hbl) (by decide) H7 (by decide) (show o + 4 + 4 ≤ _ by omega) (At.cast (hat.trans (At.sub _ 4 4)) rfl) rfl rfl) ?_
  rintro _ w8 ⟨us, i1, e1, HS⟩
  replace HS := HS.join1
  have H8 := HS.H.here
  refine ops_nil ?_
  refine ⟨fun hne => absurd rfl hne, ?_⟩
  refine nZ38 ?_
  refine mixz_nil ?_
  refine nR38 ?_
  refine run_nil ?_
  refine fin_end0 rfl ?_
  exact HS.out
theorem vdeal_R : WalkR Tryz.prog 84 thdeal := vdeal_r
set_option maxRecDepth 100000 in
set_option maxHeartbeats 4000000 in
theorem vend_w (gp go o : Nat) (g : Option Nat) (cap : Nat) (sp : List Value) (st : WS) (U : TypeId) (cs : List Value) (x : thend.X) (vs : List Value) (w0 : World) (m : Nat) (a : WS) (H0 : Hp w0 w0 (bl (vwo gp g cap sp st go U cs)) (vwo gp g cap sp st go U cs)) (hm : m + thend.mx ≤ 1000000000) (hP : POk m g cap sp st) (ha : Alike a st) (hM : thend.M w0 (fun b => b ∉ bl (vwo gp g cap sp st go U cs)) x vs) (hat : At cs o vs) :
    Does Tryz.prog 85 #[.pointer (some ⟨gp, 0, none⟩), .pointer (some ⟨go, o, none⟩)] w0 (fun _ w' => VwOut (m + thend.mx) gp (wAll (thend.fl x) a) go U cs w0 (bl (vwo gp g cap sp st go U cs)) w') := by
  refine does_of Tryz.func85 Tryz.ntmps85 rfl ?_
  refine nR13 ?_
  change m + 131090 ≤ 1000000000 at hm
  have HS : VSt gp go o w0 (bl (vwo gp g cap sp st go U cs)) w0 (m + 0) a st thend x vs U cs g cap sp := ⟨H0, hP, ha, hM, hat⟩
  have H := HS.H.here
  refine run_mixZ 8 [(true, 0), (true, 1), (true, 2), (true, 3), (true, 4), (true, 5), (true, 6), (false, 7), (false, 8)] H [0, 1, 2] mixed (by decide) (by kernel_rfl) ?_
  rintro w1 hw1
  have H1 := Hp.drew H; rw [← hw1] at H1
  refine mixz_p rfl ?_
  refine mix1_val (fun wz hz => ex_move rfl) ?_
  refine mixz_p rfl ?_
  refine mix1_val (fun wz hz => ex_move rfl) ?_
  refine mixz_p rfl ?_
  refine mix1_val (fun wz hz => ex_nilCheck rfl) ?_
  refine nZ13 ?_
  refine mixz_p rfl ?_
  refine mix1_val (fun wz hz => ex_fieldAddr fl77_0 rfl) ?_
  refine mixz_p rfl ?_
  refine mix1_val (fun wz hz => ex_move rfl) ?_
  refine mixz_p rfl ?_
  refine mix1_val (fun wz hz => ex_nilCheck rfl) ?_
  refine nZ13 ?_
  refine mixz_p rfl ?_
  refine mix1_val (fun wz hz => ex_fieldAddr fl77_1 rfl) ?_
  refine mixz_o rfl ?_
  refine ops_buildSlice Tryz.underlying130 ty82 H1 rfl (by decide) rfl ?_
  intro w2 g2 H2 hg2
  refine ops_nil ?_
  refine ⟨fun hne => H2.pick [0, 1, 2] (by decide), ?_⟩
  refine nZ13 ?_
  refine mixz_o rfl ?_
  refine ops_call (ex_call gf45 rfl) (HS.grp (p := 0) vnums_W H2 (by decide) (show m + 0 + 131090 ≤ _ by omega) (fun _ _ hM => (Th.part hM 0 2)) (At.cast (At.trans (At.self _) (At.sub _ 0 2)) (by decide))) ?_
  rintro _ w3 ⟨st, g, cap, sp, HS0⟩
  have HS := VSt.re HS0 (m2 := m + 131090) (by show m + 0 + 131090 = m + 131090; omega)
  have H3 := HS.H.here
  refine ops_nil ?_
  refine ⟨fun hne => absurd rfl hne, ?_⟩
  refine nZ13 ?_
  refine mixz_nil ?_
  refine nR13 ?_
  refine run_nil ?_
  refine fin_end0 rfl ?_
  have hw0 : List.take 2 x = x := Th.whole hM
  refine HS.out2 ?_ rfl
  show _ = wAll (x) a
  simp only [List.drop_zero, wAll_part, wAll_append, Nat.reduceAdd, hw0]
theorem vend_W : WalkW Tryz.prog 85 thend := vend_w
set_option maxRecDepth 100000 in
set_option maxHeartbeats 4000000 in
theorem vend_r (gp gr : Nat) (gb : Option Nat) (cb : Nat) (sb : List Value) (b : List UInt8) (hcb : b.length ≤ cb) (hbl : b.length ≤ 65536) (go o i e : Nat) (U : TypeId) (cs : List Value) (w0 : World) (H0 : Hp w0 w0 (bl (vr gp gr gb cb sb b i e ++ [(some go, U, cs)])) (vr gp gr gb cb sb b i e ++ [(some go, U, cs)])) (hi : i ≤ b.length) (hat : At cs o thend.zs) (hfit : o + thend.sz ≤ cs.length) :
    Does Tryz.prog 85 #[.pointer (some ⟨gp, 0, none⟩), .pointer (some ⟨go, o, none⟩)] w0 (fun _ w' => RdOut (vr gp gr gb cb sb b) thend go o U cs b i e w0.heap.size w0 (bl (vr gp gr gb cb sb b i e ++ [(some go, U, cs)])) w') := by
  refine does_of Tryz.func85 Tryz.ntmps85 rfl ?_
  refine nR13 ?_
  change o + 2 ≤ cs.length at hfit
  have HS := RSt.start (R := vr gp gr gb cb sb b) (o := o) H0 hi
  have H := HS.H.here
  refine run_mixZ 8 [(true, 0), (true, 1), (true, 2), (true, 3), (true, 4), (true, 5), (true, 6), (false, 7), (false, 8)] H [0, 1, 2, 3] mixed (by decide) (by kernel_rfl) ?_
  rintro w1 hw1
  have H1 := Hp.drew H; rw [← hw1] at H1
  refine mixz_p rfl ?_
  refine mix1_val (fun wz hz => ex_move rfl) ?_
  refine mixz_p rfl ?_
  refine mix1_val (fun wz hz => ex_move rfl) ?_
  refine mixz_p rfl ?_
  refine mix1_val (fun wz hz => ex_nilCheck rfl) ?_
  refine nZ13 ?_
  refine mixz_p rfl ?_
  refine mix1_val (fun wz hz => ex_fieldAddr fl77_0 rfl) ?_
  refine mixz_p rfl ?_
  refine mix1_val (fun wz hz => ex_move rfl) ?_
  refine mixz_p rfl ?_
  refine mix1_val (fun wz hz => ex_nilCheck rfl) ?_
  refine nZ13 ?_
  refine mixz_p rfl ?_
  refine mix1_val (fun wz hz => ex_fieldAddr fl77_1 rfl) ?_
  refine mixz_o rfl ?_
  refine ops_buildSlice Tryz.underlying130 ty82 H1 rfl (by decide) rfl ?_
  intro w2 g2 H2 hg2
  refine ops_nil ?_
  refine ⟨fun hne => H2.pick [0, 1, 2, 3] (by decide), ?_⟩
  refine nZ13 ?_
  refine mixz_o rfl ?_
  refine ops_call (ex_call gf45 rfl) (HS.grp (q := 0) (vnums_R gp gr gb cb sb b hcb hbl) (by decide) H2 (by decide) (show o + 0 + 2 ≤ _ by omega) (At.cast (hat.trans (At.sub _ 0 2)) rfl) rfl rfl) ?_
  rintro _ w3 ⟨us, i1, e1, HS⟩
  replace HS := HS.join1
  have H3 := HS.H.here
  refine ops_nil ?_
  refine ⟨fun hne => absurd rfl hne, ?_⟩
  refine nZ13 ?_
  refine mixz_nil ?_
  refine nR13 ?_
  refine run_nil ?_
  refine fin_end0 rfl ?_
  exact HS.out
theorem vend_R : WalkR Tryz.prog 85 thend := vend_r
end Go.Proofs.YtoeobicpdeklaaaGreat
