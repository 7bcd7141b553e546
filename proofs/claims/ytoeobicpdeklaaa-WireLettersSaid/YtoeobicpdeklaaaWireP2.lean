/- Walks of layer 2, printed by wip/gen/codec.py. -/
import Derived.Test.YtoeobicpdeklaaaWireV
import Derived.Test.YtoeobicpdeklaaaWireM3
import Derived.Test.YtoeobicpdeklaaaWireP0
namespace Go.Proofs.Ytoeobicpdeklaaa
open Go Go.RowKit
set_option linter.unusedVariables false
attribute [local irreducible] Still Ops Does Cd
set_option maxRecDepth 100000 in
set_option maxHeartbeats 4000000 in
theorem vpiece_w (gp go o : Nat) (g : Option Nat) (cap : Nat) (sp : List Value) (st : WS) (U : TypeId) (cs : List Value) (x : thpiece.X) (vs : List Value) (w0 : World) (m : Nat) (a : WS) (H0 : Hp w0 w0 (bl (vwo gp g cap sp st go U cs)) (vwo gp g cap sp st go U cs)) (hm : m + thpiece.mx ≤ 1000000000) (hP : POk m g cap sp st) (ha : Alike a st) (hM : thpiece.M w0 (fun b => b ∉ bl (vwo gp g cap sp st go U cs)) x vs) (hat : At cs o vs) :
    Does Try.prog 109 #[.pointer (some ⟨gp, 0, none⟩), .pointer (some ⟨go, o, none⟩)] w0 (fun _ w' => VwOut (m + thpiece.mx) gp (wAll (thpiece.fl x) a) go U cs w0 (bl (vwo gp g cap sp st go U cs)) w') := by
  refine does_of Try.func109 Try.ntmps109 rfl ?_
  change Run _ _ _ _ [.pointer (some ⟨gp, 0, none⟩), .pointer (some ⟨go, o, none⟩), undef, undef, undef, undef, undef, undef, undef, undef, undef, undef, undef, undef, undef, undef, undef, undef, undef, undef, undef, undef, undef] _
  change m + 262180 ≤ 1000000000 at hm
  have HS : VSt gp go o w0 (bl (vwo gp g cap sp st go U cs)) w0 (m + 0) a st thpiece x vs U cs g cap sp := ⟨H0, hP, ha, hM, hat⟩
  have H := HS.H.here
  refine run_seq ?_
  refine run_mixZ 8 [(true, 0), (true, 1), (true, 2), (true, 3), (true, 4), (true, 5), (true, 6), (false, 7), (false, 8)] H [0, 1, 2] mixed (by decide) (by kernel_rfl) ?_
  rintro w1 hw1
  have H1 := Hp.drew H; rw [← hw1] at H1
  refine mixz_p rfl ?_
  refine mix1_val (fun wz hz => ex_move rfl) ?_
  refine mixz_p rfl ?_
  refine mix1_val (fun wz hz => ex_move rfl) ?_
  refine mixz_p rfl ?_
  refine mix1_val (fun wz hz => ex_nilCheck rfl) ?_
  change MixZ _ _ _ _ _ _ [_, _, _, _, _, _, _, _, _, _, _, _, _, _, _, _, _, _, _, _, _, _, _] _
  refine mixz_p rfl ?_
  refine mix1_val (fun wz hz => ex_fieldAddr fl70_0 rfl) ?_
  refine mixz_p rfl ?_
  refine mix1_val (fun wz hz => ex_move rfl) ?_
  refine mixz_p rfl ?_
  refine mix1_val (fun wz hz => ex_nilCheck rfl) ?_
  change MixZ _ _ _ _ _ _ [_, _, _, _, _, _, _, _, _, _, _, _, _, _, _, _, _, _, _, _, _, _, _] _
  refine mixz_p rfl ?_
  refine mix1_val (fun wz hz => ex_fieldAddr fl70_1 rfl) ?_
  refine mixz_o rfl ?_
  refine ops_buildSlice Try.underlying177 ty126 H1 rfl (by decide) rfl ?_
  intro w2 g2 H2 hg2
  refine ops_nil ?_
  refine ⟨fun hne => H2.pick [0, 1, 2] (by decide), ?_⟩
  change MixZ _ _ _ _ _ _ [_, _, _, _, _, _, _, _, _, _, _, _, _, _, _, _, _, _, _, _, _, _, _] _
  refine mixz_o rfl ?_
  refine ops_call (ex_call gf76 rfl) (HS.grp (p := 0) vnums_W H2 (by decide) (show m + 0 + 131090 ≤ _ by omega) (fun _ _ hM => (Th.part hM 0 2)) (At.cast (At.trans (At.self _) (At.sub _ 0 2)) (by decide))) ?_
  rintro _ w3 ⟨st, g, cap, sp, HS0⟩
  have HS := VSt.re HS0 (m2 := m + 131090) (by show m + 0 + 131090 = m + 131090; omega)
  have H3 := HS.H.here
  refine ops_nil ?_
  refine ⟨fun hne => absurd rfl hne, ?_⟩
  change MixZ _ _ _ _ _ _ [_, _, _, _, _, _, _, _, _, _, _, _, _, _, _, _, _, _, _, _, _, _, _] _
  refine mixz_nil ?_
  change Run _ _ _ _ [_, _, _, _, _, _, _, _, _, _, _, _, _, _, _, _, _, _, _, _, _, _, _] _
  refine run_seq ?_
  refine run_region ?_
  refine ops_val (ex_move rfl) ?_
  refine ops_val (ex_move rfl) ?_
  refine ops_val (ex_nilCheck rfl) ?_
  change Ops _ _ _ _ _ _ [_, _, _, _, _, _, _, _, _, _, _, _, _, _, _, _, _, _, _, _, _, _, _] _
  refine ops_val (ex_fieldAddr fl70_2 rfl) ?_
  refine ops_call (ex_call gf139 rfl) (HS.one (p := 2) vsum_W (show m + 131090 + 65545 ≤ _ by omega) (fun _ _ hM => (Th.part hM 2 1)) (At.cast (At.trans (At.self _) (At.sub _ 2 1)) (by decide))) ?_
  rintro _ w4 ⟨st, g, cap, sp, HS0⟩
  have HS := VSt.re HS0 (m2 := m + 196635) (by show m + 131090 + 65545 = m + 196635; omega)
  have H4 := HS.H.here
  refine ops_nil ?_
  change Run _ _ _ _ [_, _, _, _, _, _, _, _, _, _, _, _, _, _, _, _, _, _, _, _, _, _, _] _
  refine run_region ?_
  refine ops_val (ex_move rfl) ?_
  refine ops_val (ex_move rfl) ?_
  refine ops_val (ex_nilCheck rfl) ?_
  change Ops _ _ _ _ _ _ [_, _, _, _, _, _, _, _, _, _, _, _, _, _, _, _, _, _, _, _, _, _, _] _
  refine ops_val (ex_fieldAddr fl70_3 rfl) ?_
  refine ops_call (ex_call gf81 rfl) (HS.one (p := 3) vbytes_W (show m + 196635 + 65545 ≤ _ by omega) (fun _ _ hM => (Th.part hM 3 1)) (At.cast (At.trans (At.self _) (At.sub _ 3 1)) (by decide))) ?_
  rintro _ w5 ⟨st, g, cap, sp, HS0⟩
  have HS := VSt.re HS0 (m2 := m + 262180) (by show m + 196635 + 65545 = m + 262180; omega)
  have H5 := HS.H.here
  refine ops_nil ?_
  change Run _ _ _ _ [_, _, _, _, _, _, _, _, _, _, _, _, _, _, _, _, _, _, _, _, _, _, _] _
  refine run_nil ?_
  refine fin_end0 rfl ?_
  have hw0 : List.take 4 x = x := Th.whole hM
  refine HS.out2 ?_ rfl
  show _ = wAll (x) a
  simp only [List.drop_zero, wAll_part, wAll_append, Nat.reduceAdd, hw0]
theorem vpiece_W : WalkW Try.prog 109 thpiece := vpiece_w
set_option maxRecDepth 100000 in
set_option maxHeartbeats 4000000 in
theorem vpiece_r (gp gr : Nat) (gb : Option Nat) (cb : Nat) (sb : List Value) (b : List UInt8) (hcb : b.length ≤ cb) (hbl : b.length ≤ 65536) (go o i e : Nat) (U : TypeId) (cs : List Value) (w0 : World) (H0 : Hp w0 w0 (bl (vr gp gr gb cb sb b i e ++ [(some go, U, cs)])) (vr gp gr gb cb sb b i e ++ [(some go, U, cs)])) (hi : i ≤ b.length) (hat : At cs o thpiece.zs) (hfit : o + thpiece.sz ≤ cs.length) :
    Does Try.prog 109 #[.pointer (some ⟨gp, 0, none⟩), .pointer (some ⟨go, o, none⟩)] w0 (fun _ w' => RdOut (vr gp gr gb cb sb b) thpiece go o U cs b i e w0.heap.size w0 (bl (vr gp gr gb cb sb b i e ++ [(some go, U, cs)])) w') := by
  refine does_of Try.func109 Try.ntmps109 rfl ?_
  change Run _ _ _ _ [.pointer (some ⟨gp, 0, none⟩), .pointer (some ⟨go, o, none⟩), undef, undef, undef, undef, undef, undef, undef, undef, undef, undef, undef, undef, undef, undef, undef, undef, undef, undef, undef, undef, undef] _
  change o + 4 ≤ cs.length at hfit
  have HS := RSt.start (R := vr gp gr gb cb sb b) (o := o) H0 hi
  have H := HS.H.here
  refine run_seq ?_
  refine run_mixZ 8 [(true, 0), (true, 1), (true, 2), (true, 3), (true, 4), (true, 5), (true, 6), (false, 7), (false, 8)] H [0, 1, 2, 3] mixed (by decide) (by kernel_rfl) ?_
  rintro w1 hw1
  have H1 := Hp.drew H; rw [← hw1] at H1
  refine mixz_p rfl ?_
  refine mix1_val (fun wz hz => ex_move rfl) ?_
  refine mixz_p rfl ?_
  refine mix1_val (fun wz hz => ex_move rfl) ?_
  refine mixz_p rfl ?_
  refine mix1_val (fun wz hz => ex_nilCheck rfl) ?_
  change MixZ _ _ _ _ _ _ [_, _, _, _, _, _, _, _, _, _, _, _, _, _, _, _, _, _, _, _, _, _, _] _
  refine mixz_p rfl ?_
  refine mix1_val (fun wz hz => ex_fieldAddr fl70_0 rfl) ?_
  refine mixz_p rfl ?_
  refine mix1_val (fun wz hz => ex_move rfl) ?_
  refine mixz_p rfl ?_
  refine mix1_val (fun wz hz => ex_nilCheck rfl) ?_
  change MixZ _ _ _ _ _ _ [_, _, _, _, _, _, _, _, _, _, _, _, _, _, _, _, _, _, _, _, _, _, _] _
  refine mixz_p rfl ?_
  refine mix1_val (fun wz hz => ex_fieldAddr fl70_1 rfl) ?_
  refine mixz_o rfl ?_
  refine ops_buildSlice Try.underlying177 ty126 H1 rfl (by decide) rfl ?_
  intro w2 g2 H2 hg2
  refine ops_nil ?_
  refine ⟨fun hne => H2.pick [0, 1, 2, 3] (by decide), ?_⟩
  change MixZ _ _ _ _ _ _ [_, _, _, _, _, _, _, _, _, _, _, _, _, _, _, _, _, _, _, _, _, _, _] _
  refine mixz_o rfl ?_
  refine ops_call (ex_call gf76 rfl) (HS.grp (q := 0) (vnums_R gp gr gb cb sb b hcb hbl) (by decide) H2 (by decide) (show o + 0 + 2 ≤ _ by omega) (At.cast (hat.trans (At.sub _ 0 2)) rfl) rfl rfl) ?_
  rintro _ w3 ⟨us, i1, e1, HS⟩
  replace HS := HS.join1
  have H3 := HS.H.here
  refine ops_nil ?_
  refine ⟨fun hne => absurd rfl hne, ?_⟩
  change MixZ _ _ _ _ _ _ [_, _, _, _, _, _, _, _, _, _, _, _, _, _, _, _, _, _, _, _, _, _, _] _
  refine mixz_nil ?_
  change Run _ _ _ _ [_, _, _, _, _, _, _, _, _, _, _, _, _, _, _, _, _, _, _, _, _, _, _] _
  refine run_seq ?_
  refine run_region ?_
  refine ops_val (ex_move rfl) ?_
  refine ops_val (ex_move rfl) ?_
  refine ops_val (ex_nilCheck rfl) ?_
  change Ops _ _ _ _ _ _ [_, _, _, _, _, _, _, _, _, _, _, _, _, _, _, _, _, _, _, _, _, _, _] _
  refine ops_val (ex_fieldAddr fl70_2 rfl) ?_
  refine ops_call (ex_call gf139 rfl) (HS.one (q := 2) (vsum_R gp gr gb cb sb b hcb hbl) (by decide) (show o + 2 + 1 ≤ _ by omega) (At.cast (hat.trans (At.sub _ 2 1)) rfl)) ?_
  rintro _ w4 ⟨us, i1, e1, HS⟩
  replace HS := HS.join1
  have H4 := HS.H.here
  refine ops_nil ?_
  change Run _ _ _ _ [_, _, _, _, _, _, _, _, _, _, _, _, _, _, _, _, _, _, _, _, _, _, _] _
  refine run_region ?_
  refine ops_val (ex_move rfl) ?_
  refine ops_val (ex_move rfl) ?_
  refine ops_val (ex_nilCheck rfl) ?_
  change Ops _ _ _ _ _ _ [_, _, _, _, _, _, _, _, _, _, _, _, _, _, _, _, _, _, _, _, _, _, _] _
  refine ops_val (ex_fieldAddr fl70_3 rfl) ?_
  refine ops_call (ex_call gf81 rfl) (HS.one (q := 3) (vbytes_R gp gr gb cb sb b hcb hbl) (by decide) (show o + 3 + 1 ≤ _ by omega) (At.cast (hat.trans (At.sub _ 3 1)) rfl)) ?_
  rintro _ w5 ⟨us, i1, e1, HS⟩
  replace HS := HS.join1
  have H5 := HS.H.here
  refine ops_nil ?_
  change Run _ _ _ _ [_, _, _, _, _, _, _, _, _, _, _, _, _, _, _, _, _, _, _, _, _, _, _] _
  refine run_nil ?_
  refine fin_end0 rfl ?_
  exact HS.out
theorem vpiece_R : WalkR Try.prog 109 thpiece := vpiece_r
set_option maxRecDepth 100000 in
set_option maxHeartbeats 4000000 in
theorem vposted_w (gp go o : Nat) (g : Option Nat) (cap : Nat) (sp : List Value) (st : WS) (U : TypeId) (cs : List Value) (x : thposted.X) (vs : List Value) (w0 : World) (m : Nat) (a : WS) (H0 : Hp w0 w0 (bl (vwo gp g cap sp st go U cs)) (vwo gp g cap sp st go U cs)) (hm : m + thposted.mx ≤ 1000000000) (hP : POk m g cap sp st) (ha : Alike a st) (hM : thposted.M w0 (fun b => b ∉ bl (vwo gp g cap sp st go U cs)) x vs) (hat : At cs o vs) :
    Does Try.prog 63 #[.pointer (some ⟨gp, 0, none⟩), .pointer (some ⟨go, o, none⟩)] w0 (fun _ w' => VwOut (m + thposted.mx) gp (wAll (thposted.fl x) a) go U cs w0 (bl (vwo gp g cap sp st go U cs)) w') := by
  refine does_of Try.func63 Try.ntmps63 rfl ?_
  change Run _ _ _ _ [.pointer (some ⟨gp, 0, none⟩), .pointer (some ⟨go, o, none⟩), undef, undef, undef, undef, undef, undef, undef, undef, undef, undef, undef, undef, undef, undef, undef, undef, undef, undef, undef, undef, undef, undef, undef, undef, undef, undef, undef, undef, undef, undef, undef, undef, undef, undef, undef, undef, undef, undef, undef, undef, undef, undef, undef, undef, undef, undef, undef, undef, undef, undef] _
  change m + 1441972 ≤ 1000000000 at hm
  have HS : VSt gp go o w0 (bl (vwo gp g cap sp st go U cs)) w0 (m + 0) a st thposted x vs U cs g cap sp := ⟨H0, hP, ha, hM, hat⟩
  have H := HS.H.here
  refine run_seq ?_
  refine run_region ?_
  refine ops_val (ex_move rfl) ?_
  refine ops_val (ex_nilCheck rfl) ?_
  refine ops_val (ex_fieldAddr fl76_1 rfl) ?_
  change Ops _ _ _ _ _ _ [_, _, _, _, _, _, _, _, _, _, _, _, _, _, _, _, _, _, _, _, _, _, _, _, _, _, _, _, _, _, _, _, _, _, _, _, _, _, _, _, _, _, _, _, _, _, _, _, _, _, _, _] _
  refine ops_val (ex_assign rfl) ?_
  refine ops_nil ?_
  change Run _ _ _ _ [_, _, _, _, _, _, _, _, _, _, _, _, _, _, _, _, _, _, _, _, _, _, _, _, _, _, _, _, _, _, _, _, _, _, _, _, _, _, _, _, _, _, _, _, _, _, _, _, _, _, _, _] _
  refine run_seq ?_
  refine run_mixZ 14 [(true, 0), (true, 1), (true, 2), (true, 3), (true, 4), (true, 5), (true, 6), (true, 7), (true, 8), (true, 9), (true, 10), (true, 11), (true, 12), (false, 13), (false, 14)] H [0, 1, 2] mixed (by decide) (by kernel_rfl) ?_
  rintro w1 hw1
  have H1 := Hp.drew H; rw [← hw1] at H1
  refine mixz_p rfl ?_
  refine mix1_val (fun wz hz => ex_move rfl) ?_
  refine mixz_p rfl ?_
  refine mix1_val (fun wz hz => ex_move rfl) ?_
  refine mixz_p rfl ?_
  refine mix1_val (fun wz hz => ex_nilCheck rfl) ?_
  change MixZ _ _ _ _ _ _ [_, _, _, _, _, _, _, _, _, _, _, _, _, _, _, _, _, _, _, _, _, _, _, _, _, _, _, _, _, _, _, _, _, _, _, _, _, _, _, _, _, _, _, _, _, _, _, _, _, _, _, _] _
  refine mixz_p rfl ?_
  refine mix1_val (fun wz hz => ex_fieldAddr fl76_0 rfl) ?_
  refine mixz_p rfl ?_
  refine mix1_val (fun wz hz => ex_move rfl) ?_
  refine mixz_p rfl ?_
  refine mix1_val (fun wz hz => ex_nilCheck rfl) ?_
  change MixZ _ _ _ _ _ _ [_, _, _, _, _, _, _, _, _, _, _, _, _, _, _, _, _, _, _, _, _, _, _, _, _, _, _, _, _, _, _, _, _, _, _, _, _, _, _, _, _, _, _, _, _, _, _, _, _, _, _, _] _
  refine mixz_p rfl ?_
  refine mix1_val (fun wz hz => ex_fieldAddr fl72_0 rfl) ?_
  refine mixz_p rfl ?_
  refine mix1_val (fun wz hz => ex_move rfl) ?_
  refine mixz_p rfl ?_
  refine mix1_val (fun wz hz => ex_nilCheck rfl) ?_
  change MixZ _ _ _ _ _ _ [_, _, _, _, _, _, _, _, _, _, _, _, _, _, _, _, _, _, _, _, _, _, _, _, _, _, _, _, _, _, _, _, _, _, _, _, _, _, _, _, _, _, _, _, _, _, _, _, _, _, _, _] _
  refine mixz_p rfl ?_
  refine mix1_val (fun wz hz => ex_fieldAddr fl72_1 rfl) ?_
  refine mixz_p rfl ?_
  refine mix1_val (fun wz hz => ex_move rfl) ?_
  refine mixz_p rfl ?_
  refine mix1_val (fun wz hz => ex_nilCheck rfl) ?_
  change MixZ _ _ _ _ _ _ [_, _, _, _, _, _, _, _, _, _, _, _, _, _, _, _, _, _, _, _, _, _, _, _, _, _, _, _, _, _, _, _, _, _, _, _, _, _, _, _, _, _, _, _, _, _, _, _, _, _, _, _] _
  refine mixz_p rfl ?_
  refine mix1_val (fun wz hz => ex_fieldAddr fl72_2 rfl) ?_
  refine mixz_o rfl ?_
  refine ops_buildSlice Try.underlying177 ty126 H1 rfl (by decide) rfl ?_
  intro w2 g2 H2 hg2
  refine ops_nil ?_
  refine ⟨fun hne => H2.pick [0, 1, 2] (by decide), ?_⟩
  change MixZ _ _ _ _ _ _ [_, _, _, _, _, _, _, _, _, _, _, _, _, _, _, _, _, _, _, _, _, _, _, _, _, _, _, _, _, _, _, _, _, _, _, _, _, _, _, _, _, _, _, _, _, _, _, _, _, _, _, _] _
  refine mixz_o rfl ?_
  refine ops_call (ex_call gf76 rfl) (HS.grp (p := 0) vnums_W H2 (by decide) (show m + 0 + 262180 ≤ _ by omega) (fun _ _ hM => (Th.part (Th.fst (Th.fst (Th.fst hM))) 0 4)) (At.cast (At.trans (At.of_take (At.of_take (At.of_take (At.self _)))) (At.sub _ 0 4)) (by decide))) ?_
  rintro _ w3 ⟨st, g, cap, sp, HS0⟩
  have HS := VSt.re HS0 (m2 := m + 262180) (by show m + 0 + 262180 = m + 262180; omega)
  have H3 := HS.H.here
  refine ops_nil ?_
  refine ⟨fun hne => absurd rfl hne, ?_⟩
  change MixZ _ _ _ _ _ _ [_, _, _, _, _, _, _, _, _, _, _, _, _, _, _, _, _, _, _, _, _, _, _, _, _, _, _, _, _, _, _, _, _, _, _, _, _, _, _, _, _, _, _, _, _, _, _, _, _, _, _, _] _
  refine mixz_nil ?_
  change Run _ _ _ _ [_, _, _, _, _, _, _, _, _, _, _, _, _, _, _, _, _, _, _, _, _, _, _, _, _, _, _, _, _, _, _, _, _, _, _, _, _, _, _, _, _, _, _, _, _, _, _, _, _, _, _, _] _
  refine run_seq ?_
  refine run_region ?_
  refine ops_val (ex_move rfl) ?_
  refine ops_val (ex_move rfl) ?_
  refine ops_val (ex_nilCheck rfl) ?_
  change Ops _ _ _ _ _ _ [_, _, _, _, _, _, _, _, _, _, _, _, _, _, _, _, _, _, _, _, _, _, _, _, _, _, _, _, _, _, _, _, _, _, _, _, _, _, _, _, _, _, _, _, _, _, _, _, _, _, _, _] _
  refine ops_val (ex_fieldAddr fl72_3 rfl) ?_
  refine ops_call (ex_call gf89 rfl) (HS.one (p := 4) vballot_W (show m + 262180 + 131090 ≤ _ by omega) (fun _ _ hM => (Th.part (Th.fst (Th.fst (Th.fst hM))) 4 2)) (At.cast (At.trans (At.of_take (At.of_take (At.of_take (At.self _)))) (At.sub _ 4 2)) (by decide))) ?_
  rintro _ w4 ⟨st, g, cap, sp, HS0⟩
  have HS := VSt.re HS0 (m2 := m + 393270) (by show m + 262180 + 131090 = m + 393270; omega)
  have H4 := HS.H.here
  refine ops_nil ?_
  change Run _ _ _ _ [_, _, _, _, _, _, _, _, _, _, _, _, _, _, _, _, _, _, _, _, _, _, _, _, _, _, _, _, _, _, _, _, _, _, _, _, _, _, _, _, _, _, _, _, _, _, _, _, _, _, _, _] _
  refine run_seq ?_
  refine run_mixZ 8 [(true, 0), (true, 1), (true, 2), (true, 3), (true, 4), (true, 5), (true, 6), (false, 7), (false, 8)] H4 [0, 1, 2] mixed (by decide) (by kernel_rfl) ?_
  rintro w5 hw5
  have H5 := Hp.drew H4; rw [← hw5] at H5
  refine mixz_p rfl ?_
  refine mix1_val (fun wz hz => ex_move rfl) ?_
  refine mixz_p rfl ?_
  refine mix1_val (fun wz hz => ex_move rfl) ?_
  refine mixz_p rfl ?_
  refine mix1_val (fun wz hz => ex_nilCheck rfl) ?_
  change MixZ _ _ _ _ _ _ [_, _, _, _, _, _, _, _, _, _, _, _, _, _, _, _, _, _, _, _, _, _, _, _, _, _, _, _, _, _, _, _, _, _, _, _, _, _, _, _, _, _, _, _, _, _, _, _, _, _, _, _] _
  refine mixz_p rfl ?_
  refine mix1_val (fun wz hz => ex_fieldAddr fl72_4 rfl) ?_
  refine mixz_p rfl ?_
  refine mix1_val (fun wz hz => ex_move rfl) ?_
  refine mixz_p rfl ?_
  refine mix1_val (fun wz hz => ex_nilCheck rfl) ?_
  change MixZ _ _ _ _ _ _ [_, _, _, _, _, _, _, _, _, _, _, _, _, _, _, _, _, _, _, _, _, _, _, _, _, _, _, _, _, _, _, _, _, _, _, _, _, _, _, _, _, _, _, _, _, _, _, _, _, _, _, _] _
  refine mixz_p rfl ?_
  refine mix1_val (fun wz hz => ex_fieldAddr fl72_5 rfl) ?_
  refine mixz_o rfl ?_
  refine ops_buildSlice Try.underlying177 ty126 H5 rfl (by decide) rfl ?_
  intro w6 g6 H6 hg6
  refine ops_nil ?_
  refine ⟨fun hne => H6.pick [0, 1, 2] (by decide), ?_⟩
  change MixZ _ _ _ _ _ _ [_, _, _, _, _, _, _, _, _, _, _, _, _, _, _, _, _, _, _, _, _, _, _, _, _, _, _, _, _, _, _, _, _, _, _, _, _, _, _, _, _, _, _, _, _, _, _, _, _, _, _, _] _
  refine mixz_o rfl ?_
  refine ops_call (ex_call gf76 rfl) (HS.grp (p := 6) vnums_W H6 (by decide) (show m + 393270 + 131090 ≤ _ by omega) (fun _ _ hM => (Th.part (Th.fst (Th.fst (Th.fst hM))) 6 2)) (At.cast (At.trans (At.of_take (At.of_take (At.of_take (At.self _)))) (At.sub _ 6 2)) (by decide))) ?_
  rintro _ w7 ⟨st, g, cap, sp, HS0⟩
  have HS := VSt.re HS0 (m2 := m + 524360) (by show m + 393270 + 131090 = m + 524360; omega)
  have H7 := HS.H.here
  refine ops_nil ?_
  refine ⟨fun hne => absurd rfl hne, ?_⟩
  change MixZ _ _ _ _ _ _ [_, _, _, _, _, _, _, _, _, _, _, _, _, _, _, _, _, _, _, _, _, _, _, _, _, _, _, _, _, _, _, _, _, _, _, _, _, _, _, _, _, _, _, _, _, _, _, _, _, _, _, _] _
  refine mixz_nil ?_
  change Run _ _ _ _ [_, _, _, _, _, _, _, _, _, _, _, _, _, _, _, _, _, _, _, _, _, _, _, _, _, _, _, _, _, _, _, _, _, _, _, _, _, _, _, _, _, _, _, _, _, _, _, _, _, _, _, _] _
  refine run_seq ?_
  refine run_region ?_
  refine ops_val (ex_move rfl) ?_
  refine ops_val (ex_move rfl) ?_
  refine ops_val (ex_nilCheck rfl) ?_
  change Ops _ _ _ _ _ _ [_, _, _, _, _, _, _, _, _, _, _, _, _, _, _, _, _, _, _, _, _, _, _, _, _, _, _, _, _, _, _, _, _, _, _, _, _, _, _, _, _, _, _, _, _, _, _, _, _, _, _, _] _
  refine ops_val (ex_fieldAddr fl72_6 rfl) ?_
  refine ops_call (ex_call gf107 rfl) (HS.one (p := 8) vlvote_W (show m + 524360 + 393261 ≤ _ by omega) (fun _ _ hM => (Th.snd (Th.fst (Th.fst hM)))) (At.cast (At.of_take (At.of_take (At.drop _ _))) (by decide))) ?_
  rintro _ w8 ⟨st, g, cap, sp, HS0⟩
  have HS := VSt.re HS0 (m2 := m + 917621) (by show m + 524360 + 393261 = m + 917621; omega)
  have H8 := HS.H.here
  refine ops_nil ?_
  change Run _ _ _ _ [_, _, _, _, _, _, _, _, _, _, _, _, _, _, _, _, _, _, _, _, _, _, _, _, _, _, _, _, _, _, _, _, _, _, _, _, _, _, _, _, _, _, _, _, _, _, _, _, _, _, _, _] _
  refine run_seq ?_
  refine run_region ?_
  refine ops_val (ex_move rfl) ?_
  refine ops_val (ex_move rfl) ?_
  refine ops_val (ex_nilCheck rfl) ?_
  change Ops _ _ _ _ _ _ [_, _, _, _, _, _, _, _, _, _, _, _, _, _, _, _, _, _, _, _, _, _, _, _, _, _, _, _, _, _, _, _, _, _, _, _, _, _, _, _, _, _, _, _, _, _, _, _, _, _, _, _] _
  refine ops_val (ex_fieldAddr fl72_7 rfl) ?_
  refine ops_call (ex_call gf108 rfl) (HS.one (p := 9) vlentry_W (show m + 917621 + 262171 ≤ _ by omega) (fun _ _ hM => (Th.snd (Th.fst hM))) (At.cast (At.of_take (At.drop _ _)) (by decide))) ?_
  rintro _ w9 ⟨st, g, cap, sp, HS0⟩
  have HS := VSt.re HS0 (m2 := m + 1179792) (by show m + 917621 + 262171 = m + 1179792; omega)
  have H9 := HS.H.here
  refine ops_nil ?_
  change Run _ _ _ _ [_, _, _, _, _, _, _, _, _, _, _, _, _, _, _, _, _, _, _, _, _, _, _, _, _, _, _, _, _, _, _, _, _, _, _, _, _, _, _, _, _, _, _, _, _, _, _, _, _, _, _, _] _
  refine run_region ?_
  refine ops_val (ex_move rfl) ?_
  refine ops_val (ex_move rfl) ?_
  refine ops_val (ex_nilCheck rfl) ?_
  change Ops _ _ _ _ _ _ [_, _, _, _, _, _, _, _, _, _, _, _, _, _, _, _, _, _, _, _, _, _, _, _, _, _, _, _, _, _, _, _, _, _, _, _, _, _, _, _, _, _, _, _, _, _, _, _, _, _, _, _] _
  refine ops_val (ex_fieldAddr fl72_8 rfl) ?_
  refine ops_call (ex_call gf109 rfl) (HS.one (p := 10) vpiece_W (show m + 1179792 + 262180 ≤ _ by omega) (fun _ _ hM => (Th.part (Th.snd hM) 0 4)) (At.cast (At.trans (At.drop _ _) (At.sub _ 0 4)) (by decide))) ?_
  rintro _ w10 ⟨st, g, cap, sp, HS0⟩
  have HS := VSt.re HS0 (m2 := m + 1441972) (by show m + 1179792 + 262180 = m + 1441972; omega)
  have H10 := HS.H.here
  refine ops_nil ?_
  change Run _ _ _ _ [_, _, _, _, _, _, _, _, _, _, _, _, _, _, _, _, _, _, _, _, _, _, _, _, _, _, _, _, _, _, _, _, _, _, _, _, _, _, _, _, _, _, _, _, _, _, _, _, _, _, _, _] _
  refine run_nil ?_
  refine fin_end0 rfl ?_
  have hw0 : List.take 8 x.1.1.1 = x.1.1.1 := Th.whole (Th.fst (Th.fst (Th.fst hM)))
  have hw3 : List.take 4 x.2 = x.2 := Th.whole (Th.snd hM)
  refine HS.out2 ?_ rfl
  show _ = wAll (x.1.1.1 ++ (Th.many thvote false).fl x.1.1.2 ++ (Th.many thentry false).fl x.1.2 ++ x.2) a
  simp only [List.drop_zero, wAll_part, wAll_append, Nat.reduceAdd, hw0, hw3]
theorem vposted_W : WalkW Try.prog 63 thposted := vposted_w
set_option maxRecDepth 100000 in
set_option maxHeartbeats 4000000 in
theorem vposted_r (gp gr : Nat) (gb : Option Nat) (cb : Nat) (sb : List Value) (b : List UInt8) (hcb : b.length ≤ cb) (hbl : b.length ≤ 65536) (go o i e : Nat) (U : TypeId) (cs : List Value) (w0 : World) (H0 : Hp w0 w0 (bl (vr gp gr gb cb sb b i e ++ [(some go, U, cs)])) (vr gp gr gb cb sb b i e ++ [(some go, U, cs)])) (hi : i ≤ b.length) (hat : At cs o thposted.zs) (hfit : o + thposted.sz ≤ cs.length) :
    Does Try.prog 63 #[.pointer (some ⟨gp, 0, none⟩), .pointer (some ⟨go, o, none⟩)] w0 (fun _ w' => RdOut (vr gp gr gb cb sb b) thposted go o U cs b i e w0.heap.size w0 (bl (vr gp gr gb cb sb b i e ++ [(some go, U, cs)])) w') := by
  refine does_of Try.func63 Try.ntmps63 rfl ?_
  change Run _ _ _ _ [.pointer (some ⟨gp, 0, none⟩), .pointer (some ⟨go, o, none⟩), undef, undef, undef, undef, undef, undef, undef, undef, undef, undef, undef, undef, undef, undef, undef, undef, undef, undef, undef, undef, undef, undef, undef, undef, undef, undef, undef, undef, undef, undef, undef, undef, undef, undef, undef, undef, undef, undef, undef, undef, undef, undef, undef, undef, undef, undef, undef, undef, undef, undef] _
  change o + 14 ≤ cs.length at hfit
  have HS := RSt.start (R := vr gp gr gb cb sb b) (o := o) H0 hi
  have H := HS.H.here
  refine run_seq ?_
  refine run_region ?_
  refine ops_val (ex_move rfl) ?_
  refine ops_val (ex_nilCheck rfl) ?_
  refine ops_val (ex_fieldAddr fl76_1 rfl) ?_
  change Ops _ _ _ _ _ _ [_, _, _, _, _, _, _, _, _, _, _, _, _, _, _, _, _, _, _, _, _, _, _, _, _, _, _, _, _, _, _, _, _, _, _, _, _, _, _, _, _, _, _, _, _, _, _, _, _, _, _, _] _
  refine ops_val (ex_assign rfl) ?_
  refine ops_nil ?_
  change Run _ _ _ _ [_, _, _, _, _, _, _, _, _, _, _, _, _, _, _, _, _, _, _, _, _, _, _, _, _, _, _, _, _, _, _, _, _, _, _, _, _, _, _, _, _, _, _, _, _, _, _, _, _, _, _, _] _
  refine run_seq ?_
  refine run_mixZ 14 [(true, 0), (true, 1), (true, 2), (true, 3), (true, 4), (true, 5), (true, 6), (true, 7), (true, 8), (true, 9), (true, 10), (true, 11), (true, 12), (false, 13), (false, 14)] H [0, 1, 2, 3] mixed (by decide) (by kernel_rfl) ?_
  rintro w1 hw1
  have H1 := Hp.drew H; rw [← hw1] at H1
  refine mixz_p rfl ?_
  refine mix1_val (fun wz hz => ex_move rfl) ?_
  refine mixz_p rfl ?_
  refine mix1_val (fun wz hz => ex_move rfl) ?_
  refine mixz_p rfl ?_
  refine mix1_val (fun wz hz => ex_nilCheck rfl) ?_
  change MixZ _ _ _ _ _ _ [_, _, _, _, _, _, _, _, _, _, _, _, _, _, _, _, _, _, _, _, _, _, _, _, _, _, _, _, _, _, _, _, _, _, _, _, _, _, _, _, _, _, _, _, _, _, _, _, _, _, _, _] _
  refine mixz_p rfl ?_
  refine mix1_val (fun wz hz => ex_fieldAddr fl76_0 rfl) ?_
  refine mixz_p rfl ?_
  refine mix1_val (fun wz hz => ex_move rfl) ?_
  refine mixz_p rfl ?_
  refine mix1_val (fun wz hz => ex_nilCheck rfl) ?_
  change MixZ _ _ _ _ _ _ [_, _, _, _, _, _, _, _, _, _, _, _, _, _, _, _, _, _, _, _, _, _, _, _, _, _, _, _, _, _, _, _, _, _, _, _, _, _, _, _, _, _, _, _, _, _, _, _, _, _, _, _] _
  refine mixz_p rfl ?_
  refine mix1_val (fun wz hz => ex_fieldAddr fl72_0 rfl) ?_
  refine mixz_p rfl ?_
  refine mix1_val (fun wz hz => ex_move rfl) ?_
  refine mixz_p rfl ?_
  refine mix1_val (fun wz hz => ex_nilCheck rfl) ?_
  change MixZ _ _ _ _ _ _ [_, _, _, _, _, _, _, _, _, _, _, _, _, _, _, _, _, _, _, _, _, _, _, _, _, _, _, _, _, _, _, _, _, _, _, _, _, _, _, _, _, _, _, _, _, _, _, _, _, _, _, _] _
  refine mixz_p rfl ?_
  refine mix1_val (fun wz hz => ex_fieldAddr fl72_1 rfl) ?_
  refine mixz_p rfl ?_
  refine mix1_val (fun wz hz => ex_move rfl) ?_
  refine mixz_p rfl ?_
  refine mix1_val (fun wz hz => ex_nilCheck rfl) ?_
  change MixZ _ _ _ _ _ _ [_, _, _, _, _, _, _, _, _, _, _, _, _, _, _, _, _, _, _, _, _, _, _, _, _, _, _, _, _, _, _, _, _, _, _, _, _, _, _, _, _, _, _, _, _, _, _, _, _, _, _, _] _
  refine mixz_p rfl ?_
  refine mix1_val (fun wz hz => ex_fieldAddr fl72_2 rfl) ?_
  refine mixz_o rfl ?_
  refine ops_buildSlice Try.underlying177 ty126 H1 rfl (by decide) rfl ?_
  intro w2 g2 H2 hg2
  refine ops_nil ?_
  refine ⟨fun hne => H2.pick [0, 1, 2, 3] (by decide), ?_⟩
  change MixZ _ _ _ _ _ _ [_, _, _, _, _, _, _, _, _, _, _, _, _, _, _, _, _, _, _, _, _, _, _, _, _, _, _, _, _, _, _, _, _, _, _, _, _, _, _, _, _, _, _, _, _, _, _, _, _, _, _, _] _
  refine mixz_o rfl ?_
  refine ops_call (ex_call gf76 rfl) (HS.grp (q := 0) (vnums_R gp gr gb cb sb b hcb hbl) (by decide) H2 (by decide) (show o + 0 + 4 ≤ _ by omega) (At.cast (hat.trans (At.sub _ 0 4)) rfl) rfl rfl) ?_
  rintro _ w3 ⟨us, i1, e1, HS⟩
  replace HS := HS.join1
  have H3 := HS.H.here
  refine ops_nil ?_
  refine ⟨fun hne => absurd rfl hne, ?_⟩
  change MixZ _ _ _ _ _ _ [_, _, _, _, _, _, _, _, _, _, _, _, _, _, _, _, _, _, _, _, _, _, _, _, _, _, _, _, _, _, _, _, _, _, _, _, _, _, _, _, _, _, _, _, _, _, _, _, _, _, _, _] _
  refine mixz_nil ?_
  change Run _ _ _ _ [_, _, _, _, _, _, _, _, _, _, _, _, _, _, _, _, _, _, _, _, _, _, _, _, _, _, _, _, _, _, _, _, _, _, _, _, _, _, _, _, _, _, _, _, _, _, _, _, _, _, _, _] _
  refine run_seq ?_
  refine run_region ?_
  refine ops_val (ex_move rfl) ?_
  refine ops_val (ex_move rfl) ?_
  refine ops_val (ex_nilCheck rfl) ?_
  change Ops _ _ _ _ _ _ [_, _, _, _, _, _, _, _, _, _, _, _, _, _, _, _, _, _, _, _, _, _, _, _, _, _, _, _, _, _, _, _, _, _, _, _, _, _, _, _, _, _, _, _, _, _, _, _, _, _, _, _] _
  refine ops_val (ex_fieldAddr fl72_3 rfl) ?_
  refine ops_call (ex_call gf89 rfl) (HS.one (q := 4) (vballot_R gp gr gb cb sb b hcb hbl) (by decide) (show o + 4 + 2 ≤ _ by omega) (At.cast (hat.trans (At.sub _ 4 2)) rfl)) ?_
  rintro _ w4 ⟨us, i1, e1, HS⟩
  replace HS := HS.join1
  have H4 := HS.H.here
  refine ops_nil ?_
  change Run _ _ _ _ [_, _, _, _, _, _, _, _, _, _, _, _, _, _, _, _, _, _, _, _, _, _, _, _, _, _, _, _, _, _, _, _, _, _, _, _, _, _, _, _, _, _, _, _, _, _, _, _, _, _, _, _] _
  refine run_seq ?_
  refine run_mixZ 8 [(true, 0), (true, 1), (true, 2), (true, 3), (true, 4), (true, 5), (true, 6), (false, 7), (false, 8)] H4 [0, 1, 2, 3] mixed (by decide) (by kernel_rfl) ?_
  rintro w5 hw5
  have H5 := Hp.drew H4; rw [← hw5] at H5
  refine mixz_p rfl ?_
  refine mix1_val (fun wz hz => ex_move rfl) ?_
  refine mixz_p rfl ?_
  refine mix1_val (fun wz hz => ex_move rfl) ?_
  refine mixz_p rfl ?_
  refine mix1_val (fun wz hz => ex_nilCheck rfl) ?_
  change MixZ _ _ _ _ _ _ [_, _, _, _, _, _, _, _, _, _, _, _, _, _, _, _, _, _, _, _, _, _, _, _, _, _, _, _, _, _, _, _, _, _, _, _, _, _, _, _, _, _, _, _, _, _, _, _, _, _, _, _] _
  refine mixz_p rfl ?_
  refine mix1_val (fun wz hz => ex_fieldAddr fl72_4 rfl) ?_
  refine mixz_p rfl ?_
  refine mix1_val (fun wz hz => ex_move rfl) ?_
  refine mixz_p rfl ?_
  refine mix1_val (fun wz hz => ex_nilCheck rfl) ?_
  change MixZ _ _ _ _ _ _ [_, _, _, _, _, _, _, _, _, _, _, _, _, _, _, _, _, _, _, _, _, _, _, _, _, _, _, _, _, _, _, _, _, _, _, _, _, _, _, _, _, _, _, _, _, _, _, _, _, _, _, _] _
  refine mixz_p rfl ?_
  refine mix1_val (fun wz hz => ex_fieldAddr fl72_5 rfl) ?_
  refine mixz_o rfl ?_
  refine ops_buildSlice Try.underlying177 ty126 H5 rfl (by decide) rfl ?_
  intro w6 g6 H6 hg6
  refine ops_nil ?_
  refine ⟨fun hne => H6.pick [0, 1, 2, 3] (by decide), ?_⟩
  change MixZ _ _ _ _ _ _ [_, _, _, _, _, _, _, _, _, _, _, _, _, _, _, _, _, _, _, _, _, _, _, _, _, _, _, _, _, _, _, _, _, _, _, _, _, _, _, _, _, _, _, _, _, _, _, _, _, _, _, _] _
  refine mixz_o rfl ?_
  refine ops_call (ex_call gf76 rfl) (HS.grp (q := 6) (vnums_R gp gr gb cb sb b hcb hbl) (by decide) H6 (by decide) (show o + 6 + 2 ≤ _ by omega) (At.cast (hat.trans (At.sub _ 6 2)) rfl) rfl rfl) ?_
  rintro _ w7 ⟨us, i1, e1, HS⟩
  replace HS := HS.join1
  have H7 := HS.H.here
  refine ops_nil ?_
  refine ⟨fun hne => absurd rfl hne, ?_⟩
  change MixZ _ _ _ _ _ _ [_, _, _, _, _, _, _, _, _, _, _, _, _, _, _, _, _, _, _, _, _, _, _, _, _, _, _, _, _, _, _, _, _, _, _, _, _, _, _, _, _, _, _, _, _, _, _, _, _, _, _, _] _
  refine mixz_nil ?_
  change Run _ _ _ _ [_, _, _, _, _, _, _, _, _, _, _, _, _, _, _, _, _, _, _, _, _, _, _, _, _, _, _, _, _, _, _, _, _, _, _, _, _, _, _, _, _, _, _, _, _, _, _, _, _, _, _, _] _
  refine run_seq ?_
  refine run_region ?_
  refine ops_val (ex_move rfl) ?_
  refine ops_val (ex_move rfl) ?_
  refine ops_val (ex_nilCheck rfl) ?_
  change Ops _ _ _ _ _ _ [_, _, _, _, _, _, _, _, _, _, _, _, _, _, _, _, _, _, _, _, _, _, _, _, _, _, _, _, _, _, _, _, _, _, _, _, _, _, _, _, _, _, _, _, _, _, _, _, _, _, _, _] _
  refine ops_val (ex_fieldAddr fl72_6 rfl) ?_
  refine ops_call (ex_call gf107 rfl) (HS.one (q := 8) (vlvote_R gp gr gb cb sb b hcb hbl) (by decide) (show o + 8 + 1 ≤ _ by omega) (At.cast (hat.trans (At.sub _ 8 1)) rfl)) ?_
  rintro _ w8 ⟨us, i1, e1, HS⟩
  have H8 := HS.H.here
  refine ops_nil ?_
  change Run _ _ _ _ [_, _, _, _, _, _, _, _, _, _, _, _, _, _, _, _, _, _, _, _, _, _, _, _, _, _, _, _, _, _, _, _, _, _, _, _, _, _, _, _, _, _, _, _, _, _, _, _, _, _, _, _] _
  refine run_seq ?_
  refine run_region ?_
  refine ops_val (ex_move rfl) ?_
  refine ops_val (ex_move rfl) ?_
  refine ops_val (ex_nilCheck rfl) ?_
  change Ops _ _ _ _ _ _ [_, _, _, _, _, _, _, _, _, _, _, _, _, _, _, _, _, _, _, _, _, _, _, _, _, _, _, _, _, _, _, _, _, _, _, _, _, _, _, _, _, _, _, _, _, _, _, _, _, _, _, _] _
  refine ops_val (ex_fieldAddr fl72_7 rfl) ?_
  refine ops_call (ex_call gf108 rfl) (HS.one (q := 9) (vlentry_R gp gr gb cb sb b hcb hbl) (by decide) (show o + 9 + 1 ≤ _ by omega) (At.cast (hat.trans (At.sub _ 9 1)) rfl)) ?_
  rintro _ w9 ⟨us, i1, e1, HS⟩
  have H9 := HS.H.here
  refine ops_nil ?_
  change Run _ _ _ _ [_, _, _, _, _, _, _, _, _, _, _, _, _, _, _, _, _, _, _, _, _, _, _, _, _, _, _, _, _, _, _, _, _, _, _, _, _, _, _, _, _, _, _, _, _, _, _, _, _, _, _, _] _
  refine run_region ?_
  refine ops_val (ex_move rfl) ?_
  refine ops_val (ex_move rfl) ?_
  refine ops_val (ex_nilCheck rfl) ?_
  change Ops _ _ _ _ _ _ [_, _, _, _, _, _, _, _, _, _, _, _, _, _, _, _, _, _, _, _, _, _, _, _, _, _, _, _, _, _, _, _, _, _, _, _, _, _, _, _, _, _, _, _, _, _, _, _, _, _, _, _] _
  refine ops_val (ex_fieldAddr fl72_8 rfl) ?_
  refine ops_call (ex_call gf109 rfl) (HS.one (q := 10) (vpiece_R gp gr gb cb sb b hcb hbl) (by decide) (show o + 10 + 4 ≤ _ by omega) (At.cast (hat.trans (At.sub _ 10 4)) rfl)) ?_
  rintro _ w10 ⟨us, i1, e1, HS⟩
  have H10 := HS.H.here
  refine ops_nil ?_
  change Run _ _ _ _ [_, _, _, _, _, _, _, _, _, _, _, _, _, _, _, _, _, _, _, _, _, _, _, _, _, _, _, _, _, _, _, _, _, _, _, _, _, _, _, _, _, _, _, _, _, _, _, _, _, _, _, _] _
  refine run_nil ?_
  refine fin_end0 rfl ?_
  exact HS.out
theorem vposted_R : WalkR Try.prog 63 thposted := vposted_r
end Go.Proofs.Ytoeobicpdeklaaa
