/- Walks of layer 2, printed by wip/gen/codec.py. -/
import Derived.Test.YtoeobicpdeklaaaWireT
import Derived.Test.YtoeobicpdeklaaaWireD
namespace Go.Proofs.Ytoeobicpdeklaaa
open Go Go.RowKit
set_option linter.unusedVariables false
attribute [local irreducible] Still Ops Does Cd
set_option maxRecDepth 100000 in
set_option maxHeartbeats 4000000 in
theorem vballot_w (gp go o : Nat) (g : Option Nat) (cap : Nat) (sp : List Value) (st : WS) (U : TypeId) (cs : List Value) (x : thballot.X) (vs : List Value) (w0 : World) (m : Nat) (a : WS) (H0 : Hp w0 w0 (bl (vwo gp g cap sp st go U cs)) (vwo gp g cap sp st go U cs)) (hm : m + thballot.mx ≤ 1000000000) (hP : POk m g cap sp st) (ha : Alike a st) (hM : thballot.M w0 (fun b => b ∉ bl (vwo gp g cap sp st go U cs)) x vs) (hat : At cs o vs) :
    Does Try.prog 89 #[.pointer (some ⟨gp, 0, none⟩), .pointer (some ⟨go, o, none⟩)] w0 (fun _ w' => VwOut (m + thballot.mx) gp (wAll (thballot.fl x) a) go U cs w0 (bl (vwo gp g cap sp st go U cs)) w') := by
  refine does_of Try.func89 Try.ntmps89 rfl ?_
  change Run _ _ _ _ [.pointer (some ⟨gp, 0, none⟩), .pointer (some ⟨go, o, none⟩), undef, undef, undef, undef, undef, undef, undef, undef, undef, undef, undef] _
  change m + 131090 ≤ 1000000000 at hm
  have HS : VSt gp go o w0 (bl (vwo gp g cap sp st go U cs)) w0 (m + 0) a st thballot x vs U cs g cap sp := ⟨H0, hP, ha, hM, hat⟩
  have H := HS.H.here
  refine run_mixZ 8 [(true, 0), (true, 1), (true, 2), (true, 3), (true, 4), (true, 5), (true, 6), (false, 7), (false, 8)] H [0, 1, 2] mixed (by decide) (by kernel_rfl) ?_
  rintro w1 hw1
  have H1 := Hp.drew H; rw [← hw1] at H1
  refine mixz_p rfl ?_
  refine mix1_val (fun wz hz => ex_move rfl) ?_
  refine mixz_p rfl ?_
  refine mix1_val (fun wz hz => ex_move rfl) ?_
  refine mixz_p rfl ?_
  refine mix1_val (fun wz hz => ex_nilCheck rfl) ?_
  change MixZ _ _ _ _ _ _ [_, _, _, _, _, _, _, _, _, _, _, _, _] _
  refine mixz_p rfl ?_
  refine mix1_val (fun wz hz => ex_fieldAddr fl42_0 rfl) ?_
  refine mixz_p rfl ?_
  refine mix1_val (fun wz hz => ex_move rfl) ?_
  refine mixz_p rfl ?_
  refine mix1_val (fun wz hz => ex_nilCheck rfl) ?_
  change MixZ _ _ _ _ _ _ [_, _, _, _, _, _, _, _, _, _, _, _, _] _
  refine mixz_p rfl ?_
  refine mix1_val (fun wz hz => ex_fieldAddr fl42_1 rfl) ?_
  refine mixz_o rfl ?_
  refine ops_buildSlice Try.underlying177 ty126 H1 rfl (by decide) rfl ?_
  intro w2 g2 H2 hg2
  refine ops_nil ?_
  refine ⟨fun hne => H2.pick [0, 1, 2] (by decide), ?_⟩
  change MixZ _ _ _ _ _ _ [_, _, _, _, _, _, _, _, _, _, _, _, _] _
  refine mixz_o rfl ?_
  refine ops_call (ex_call gf76 rfl) (HS.grp (p := 0) vnums_W H2 (by decide) (show m + 0 + 131090 ≤ _ by omega) (fun _ _ hM => (Th.part hM 0 2)) (At.cast (At.trans (At.self _) (At.sub _ 0 2)) (by decide))) ?_
  rintro _ w3 ⟨st, g, cap, sp, HS0⟩
  have HS := VSt.re HS0 (m2 := m + 131090) (by show m + 0 + 131090 = m + 131090; omega)
  have H3 := HS.H.here
  refine ops_nil ?_
  refine ⟨fun hne => absurd rfl hne, ?_⟩
  change MixZ _ _ _ _ _ _ [_, _, _, _, _, _, _, _, _, _, _, _, _] _
  refine mixz_nil ?_
  change Run _ _ _ _ [_, _, _, _, _, _, _, _, _, _, _, _, _] _
  refine run_nil ?_
  refine fin_end0 rfl ?_
  have hw0 : List.take 2 x = x := Th.whole hM
  refine HS.out2 ?_ rfl
  show _ = wAll (x) a
  simp only [List.drop_zero, wAll_part, wAll_append, Nat.reduceAdd, hw0]
theorem vballot_W : WalkW Try.prog 89 thballot := vballot_w
set_option maxRecDepth 100000 in
set_option maxHeartbeats 4000000 in
theorem vballot_r (gp gr : Nat) (gb : Option Nat) (cb : Nat) (sb : List Value) (b : List UInt8) (hcb : b.length ≤ cb) (hbl : b.length ≤ 65536) (go o i e : Nat) (U : TypeId) (cs : List Value) (w0 : World) (H0 : Hp w0 w0 (bl (vr gp gr gb cb sb b i e ++ [(some go, U, cs)])) (vr gp gr gb cb sb b i e ++ [(some go, U, cs)])) (hi : i ≤ b.length) (hat : At cs o thballot.zs) (hfit : o + thballot.sz ≤ cs.length) :
    Does Try.prog 89 #[.pointer (some ⟨gp, 0, none⟩), .pointer (some ⟨go, o, none⟩)] w0 (fun _ w' => RdOut (vr gp gr gb cb sb b) thballot go o U cs b i e w0.heap.size w0 (bl (vr gp gr gb cb sb b i e ++ [(some go, U, cs)])) w') := by
  refine does_of Try.func89 Try.ntmps89 rfl ?_
  change Run _ _ _ _ [.pointer (some ⟨gp, 0, none⟩), .pointer (some ⟨go, o, none⟩), undef, undef, undef, undef, undef, undef, undef, undef, undef, undef, undef] _
  change o + 2 ≤ cs.length at hfit
  have HS := RSt.start (R := vr gp gr gb cb sb b) (o := o) H0 hi
  have H := HS.H.here
  refine run_mixZ 8 [(true, 0), (true, 1), (true, 2), (true, 3), (true, 4), (true, 5), (true, 6), (false, 7), (false, 8)] H [0, 1, 2, 3] mixed (by decide) (by kernel_rfl) ?_
  rintro w1 hw1
  have H1 := Hp.drew H; rw [← hw1] at H1
  refine mixz_p rfl ?_
  refine mix1_val (fun wz hz => ex_move rfl) ?_
  refine mixz_p rfl ?_
  refine mix1_val (fun wz hz => ex_move rfl) ?_
  refine mixz_p rfl ?_
  refine mix1_val (fun wz hz => ex_nilCheck rfl) ?_
  change MixZ _ _ _ _ _ _ [_, _, _, _, _, _, _, _, _, _, _, _, _] _
  refine mixz_p rfl ?_
  refine mix1_val (fun wz hz => ex_fieldAddr fl42_0 rfl) ?_
  refine mixz_p rfl ?_
  refine mix1_val (fun wz hz => ex_move rfl) ?_
  refine mixz_p rfl ?_
  refine mix1_val (fun wz hz => ex_nilCheck rfl) ?_
  change MixZ _ _ _ _ _ _ [_, _, _, _, _, _, _, _, _, _, _, _, _] _
  refine mixz_p rfl ?_
  refine mix1_val (fun wz hz => ex_fieldAddr fl42_1 rfl) ?_
  refine mixz_o rfl ?_
  refine ops_buildSlice Try.underlying177 ty126 H1 rfl (by decide) rfl ?_
  intro w2 g2 H2 hg2
  refine ops_nil ?_
  refine ⟨fun hne => H2.pick [0, 1, 2, 3] (by decide), ?_⟩
  change MixZ _ _ _ _ _ _ [_, _, _, _, _, _, _, _, _, _, _, _, _] _
  refine mixz_o rfl ?_
  refine ops_call (ex_call gf76 rfl) (HS.grp (q := 0) (vnums_R gp gr gb cb sb b hcb hbl) (by decide) H2 (by decide) (show o + 0 + 2 ≤ _ by omega) (At.cast (hat.trans (At.sub _ 0 2)) rfl) rfl rfl) ?_
  rintro _ w3 ⟨us, i1, e1, HS⟩
  replace HS := HS.join1
  have H3 := HS.H.here
  refine ops_nil ?_
  refine ⟨fun hne => absurd rfl hne, ?_⟩
  change MixZ _ _ _ _ _ _ [_, _, _, _, _, _, _, _, _, _, _, _, _] _
  refine mixz_nil ?_
  change Run _ _ _ _ [_, _, _, _, _, _, _, _, _, _, _, _, _] _
  refine run_nil ?_
  refine fin_end0 rfl ?_
  exact HS.out
theorem vballot_R : WalkR Try.prog 89 thballot := vballot_r
set_option maxRecDepth 100000 in
set_option maxHeartbeats 4000000 in
theorem vvote_w (gp go o : Nat) (g : Option Nat) (cap : Nat) (sp : List Value) (st : WS) (U : TypeId) (cs : List Value) (x : thvote.X) (vs : List Value) (w0 : World) (m : Nat) (a : WS) (H0 : Hp w0 w0 (bl (vwo gp g cap sp st go U cs)) (vwo gp g cap sp st go U cs)) (hm : m + thvote.mx ≤ 1000000000) (hP : POk m g cap sp st) (ha : Alike a st) (hM : thvote.M w0 (fun b => b ∉ bl (vwo gp g cap sp st go U cs)) x vs) (hat : At cs o vs) :
    Does Try.prog 90 #[.pointer (some ⟨gp, 0, none⟩), .pointer (some ⟨go, o, none⟩)] w0 (fun _ w' => VwOut (m + thvote.mx) gp (wAll (thvote.fl x) a) go U cs w0 (bl (vwo gp g cap sp st go U cs)) w') := by
  refine does_of Try.func90 Try.ntmps90 rfl ?_
  change Run _ _ _ _ [.pointer (some ⟨gp, 0, none⟩), .pointer (some ⟨go, o, none⟩), undef, undef, undef, undef, undef, undef, undef, undef, undef, undef, undef, undef, undef, undef, undef, undef, undef] _
  change m + 262180 ≤ 1000000000 at hm
  have HS : VSt gp go o w0 (bl (vwo gp g cap sp st go U cs)) w0 (m + 0) a st thvote x vs U cs g cap sp := ⟨H0, hP, ha, hM, hat⟩
  have H := HS.H.here
  refine run_seq ?_
  refine run_region ?_
  refine ops_val (ex_move rfl) ?_
  refine ops_val (ex_move rfl) ?_
  refine ops_val (ex_nilCheck rfl) ?_
  change Ops _ _ _ _ _ _ [_, _, _, _, _, _, _, _, _, _, _, _, _, _, _, _, _, _, _] _
  refine ops_val (ex_fieldAddr fl44_0 rfl) ?_
  refine ops_call (ex_call gf97 rfl) (HS.one (p := 0) vnum_W (show m + 0 + 65545 ≤ _ by omega) (fun _ _ hM => (Th.part hM 0 1)) (At.cast (At.trans (At.self _) (At.sub _ 0 1)) (by decide))) ?_
  rintro _ w1 ⟨st, g, cap, sp, HS0⟩
  have HS := VSt.re HS0 (m2 := m + 65545) (by show m + 0 + 65545 = m + 65545; omega)
  have H1 := HS.H.here
  refine ops_nil ?_
  change Run _ _ _ _ [_, _, _, _, _, _, _, _, _, _, _, _, _, _, _, _, _, _, _] _
  refine run_seq ?_
  refine run_region ?_
  refine ops_val (ex_move rfl) ?_
  refine ops_val (ex_move rfl) ?_
  refine ops_val (ex_nilCheck rfl) ?_
  change Ops _ _ _ _ _ _ [_, _, _, _, _, _, _, _, _, _, _, _, _, _, _, _, _, _, _] _
  refine ops_val (ex_fieldAddr fl44_1 rfl) ?_
  refine ops_call (ex_call gf89 rfl) (HS.one (p := 1) vballot_W (show m + 65545 + 131090 ≤ _ by omega) (fun _ _ hM => (Th.part hM 1 2)) (At.cast (At.trans (At.self _) (At.sub _ 1 2)) (by decide))) ?_
  rintro _ w2 ⟨st, g, cap, sp, HS0⟩
  have HS := VSt.re HS0 (m2 := m + 196635) (by show m + 65545 + 131090 = m + 196635; omega)
  have H2 := HS.H.here
  refine ops_nil ?_
  change Run _ _ _ _ [_, _, _, _, _, _, _, _, _, _, _, _, _, _, _, _, _, _, _] _
  refine run_region ?_
  refine ops_val (ex_move rfl) ?_
  refine ops_val (ex_move rfl) ?_
  refine ops_val (ex_nilCheck rfl) ?_
  change Ops _ _ _ _ _ _ [_, _, _, _, _, _, _, _, _, _, _, _, _, _, _, _, _, _, _] _
  refine ops_val (ex_fieldAddr fl44_2 rfl) ?_
  refine ops_call (ex_call gf81 rfl) (HS.one (p := 3) vbytes_W (show m + 196635 + 65545 ≤ _ by omega) (fun _ _ hM => (Th.part hM 3 1)) (At.cast (At.trans (At.self _) (At.sub _ 3 1)) (by decide))) ?_
  rintro _ w3 ⟨st, g, cap, sp, HS0⟩
  have HS := VSt.re HS0 (m2 := m + 262180) (by show m + 196635 + 65545 = m + 262180; omega)
  have H3 := HS.H.here
  refine ops_nil ?_
  change Run _ _ _ _ [_, _, _, _, _, _, _, _, _, _, _, _, _, _, _, _, _, _, _] _
  refine run_nil ?_
  refine fin_end0 rfl ?_
  have hw0 : List.take 4 x = x := Th.whole hM
  refine HS.out2 ?_ rfl
  show _ = wAll (x) a
  simp only [List.drop_zero, wAll_part, wAll_append, Nat.reduceAdd, hw0]
theorem vvote_W : WalkW Try.prog 90 thvote := vvote_w
set_option maxRecDepth 100000 in
set_option maxHeartbeats 4000000 in
theorem vvote_r (gp gr : Nat) (gb : Option Nat) (cb : Nat) (sb : List Value) (b : List UInt8) (hcb : b.length ≤ cb) (hbl : b.length ≤ 65536) (go o i e : Nat) (U : TypeId) (cs : List Value) (w0 : World) (H0 : Hp w0 w0 (bl (vr gp gr gb cb sb b i e ++ [(some go, U, cs)])) (vr gp gr gb cb sb b i e ++ [(some go, U, cs)])) (hi : i ≤ b.length) (hat : At cs o thvote.zs) (hfit : o + thvote.sz ≤ cs.length) :
    Does Try.prog 90 #[.pointer (some ⟨gp, 0, none⟩), .pointer (some ⟨go, o, none⟩)] w0 (fun _ w' => RdOut (vr gp gr gb cb sb b) thvote go o U cs b i e w0.heap.size w0 (bl (vr gp gr gb cb sb b i e ++ [(some go, U, cs)])) w') := by
  refine does_of Try.func90 Try.ntmps90 rfl ?_
  change Run _ _ _ _ [.pointer (some ⟨gp, 0, none⟩), .pointer (some ⟨go, o, none⟩), undef, undef, undef, undef, undef, undef, undef, undef, undef, undef, undef, undef, undef, undef, undef, undef, undef] _
  change o + 4 ≤ cs.length at hfit
  have HS := RSt.start (R := vr gp gr gb cb sb b) (o := o) H0 hi
  have H := HS.H.here
  refine run_seq ?_
  refine run_region ?_
  refine ops_val (ex_move rfl) ?_
  refine ops_val (ex_move rfl) ?_
  refine ops_val (ex_nilCheck rfl) ?_
  change Ops _ _ _ _ _ _ [_, _, _, _, _, _, _, _, _, _, _, _, _, _, _, _, _, _, _] _
  refine ops_val (ex_fieldAddr fl44_0 rfl) ?_
  refine ops_call (ex_call gf97 rfl) (HS.one (q := 0) (vnum_R gp gr gb cb sb b hcb hbl) (by decide) (show o + 0 + 1 ≤ _ by omega) (At.cast (hat.trans (At.sub _ 0 1)) rfl)) ?_
  rintro _ w1 ⟨us, i1, e1, HS⟩
  replace HS := HS.join1
  have H1 := HS.H.here
  refine ops_nil ?_
  change Run _ _ _ _ [_, _, _, _, _, _, _, _, _, _, _, _, _, _, _, _, _, _, _] _
  refine run_seq ?_
  refine run_region ?_
  refine ops_val (ex_move rfl) ?_
  refine ops_val (ex_move rfl) ?_
  refine ops_val (ex_nilCheck rfl) ?_
  change Ops _ _ _ _ _ _ [_, _, _, _, _, _, _, _, _, _, _, _, _, _, _, _, _, _, _] _
  refine ops_val (ex_fieldAddr fl44_1 rfl) ?_
  refine ops_call (ex_call gf89 rfl) (HS.one (q := 1) (vballot_R gp gr gb cb sb b hcb hbl) (by decide) (show o + 1 + 2 ≤ _ by omega) (At.cast (hat.trans (At.sub _ 1 2)) rfl)) ?_
  rintro _ w2 ⟨us, i1, e1, HS⟩
  replace HS := HS.join1
  have H2 := HS.H.here
  refine ops_nil ?_
  change Run _ _ _ _ [_, _, _, _, _, _, _, _, _, _, _, _, _, _, _, _, _, _, _] _
  refine run_region ?_
  refine ops_val (ex_move rfl) ?_
  refine ops_val (ex_move rfl) ?_
  refine ops_val (ex_nilCheck rfl) ?_
  change Ops _ _ _ _ _ _ [_, _, _, _, _, _, _, _, _, _, _, _, _, _, _, _, _, _, _] _
  refine ops_val (ex_fieldAddr fl44_2 rfl) ?_
  refine ops_call (ex_call gf81 rfl) (HS.one (q := 3) (vbytes_R gp gr gb cb sb b hcb hbl) (by decide) (show o + 3 + 1 ≤ _ by omega) (At.cast (hat.trans (At.sub _ 3 1)) rfl)) ?_
  rintro _ w3 ⟨us, i1, e1, HS⟩
  replace HS := HS.join1
  have H3 := HS.H.here
  refine ops_nil ?_
  change Run _ _ _ _ [_, _, _, _, _, _, _, _, _, _, _, _, _, _, _, _, _, _, _] _
  refine run_nil ?_
  refine fin_end0 rfl ?_
  exact HS.out
theorem vvote_R : WalkR Try.prog 90 thvote := vvote_r
set_option maxRecDepth 100000 in
set_option maxHeartbeats 4000000 in
theorem ventry_w (gp go o : Nat) (g : Option Nat) (cap : Nat) (sp : List Value) (st : WS) (U : TypeId) (cs : List Value) (x : thentry.X) (vs : List Value) (w0 : World) (m : Nat) (a : WS) (H0 : Hp w0 w0 (bl (vwo gp g cap sp st go U cs)) (vwo gp g cap sp st go U cs)) (hm : m + thentry.mx ≤ 1000000000) (hP : POk m g cap sp st) (ha : Alike a st) (hM : thentry.M w0 (fun b => b ∉ bl (vwo gp g cap sp st go U cs)) x vs) (hat : At cs o vs) :
    Does Try.prog 91 #[.pointer (some ⟨gp, 0, none⟩), .pointer (some ⟨go, o, none⟩)] w0 (fun _ w' => VwOut (m + thentry.mx) gp (wAll (thentry.fl x) a) go U cs w0 (bl (vwo gp g cap sp st go U cs)) w') := by
  refine does_of Try.func91 Try.ntmps91 rfl ?_
  change Run _ _ _ _ [.pointer (some ⟨gp, 0, none⟩), .pointer (some ⟨go, o, none⟩), undef, undef, undef, undef, undef, undef, undef, undef, undef, undef, undef, undef] _
  change m + 131090 ≤ 1000000000 at hm
  have HS : VSt gp go o w0 (bl (vwo gp g cap sp st go U cs)) w0 (m + 0) a st thentry x vs U cs g cap sp := ⟨H0, hP, ha, hM, hat⟩
  have H := HS.H.here
  refine run_seq ?_
  refine run_region ?_
  refine ops_val (ex_move rfl) ?_
  refine ops_val (ex_move rfl) ?_
  refine ops_val (ex_nilCheck rfl) ?_
  change Ops _ _ _ _ _ _ [_, _, _, _, _, _, _, _, _, _, _, _, _, _] _
  refine ops_val (ex_fieldAddr fl46_0 rfl) ?_
  refine ops_call (ex_call gf97 rfl) (HS.one (p := 0) vnum_W (show m + 0 + 65545 ≤ _ by omega) (fun _ _ hM => (Th.part hM 0 1)) (At.cast (At.trans (At.self _) (At.sub _ 0 1)) (by decide))) ?_
  rintro _ w1 ⟨st, g, cap, sp, HS0⟩
  have HS := VSt.re HS0 (m2 := m + 65545) (by show m + 0 + 65545 = m + 65545; omega)
  have H1 := HS.H.here
  refine ops_nil ?_
  change Run _ _ _ _ [_, _, _, _, _, _, _, _, _, _, _, _, _, _] _
  refine run_region ?_
  refine ops_val (ex_move rfl) ?_
  refine ops_val (ex_move rfl) ?_
  refine ops_val (ex_nilCheck rfl) ?_
  change Ops _ _ _ _ _ _ [_, _, _, _, _, _, _, _, _, _, _, _, _, _] _
  refine ops_val (ex_fieldAddr fl46_1 rfl) ?_
  refine ops_call (ex_call gf81 rfl) (HS.one (p := 1) vbytes_W (show m + 65545 + 65545 ≤ _ by omega) (fun _ _ hM => (Th.part hM 1 1)) (At.cast (At.trans (At.self _) (At.sub _ 1 1)) (by decide))) ?_
  rintro _ w2 ⟨st, g, cap, sp, HS0⟩
  have HS := VSt.re HS0 (m2 := m + 131090) (by show m + 65545 + 65545 = m + 131090; omega)
  have H2 := HS.H.here
  refine ops_nil ?_
  change Run _ _ _ _ [_, _, _, _, _, _, _, _, _, _, _, _, _, _] _
  refine run_nil ?_
  refine fin_end0 rfl ?_
  have hw0 : List.take 2 x = x := Th.whole hM
  refine HS.out2 ?_ rfl
  show _ = wAll (x) a
  simp only [List.drop_zero, wAll_part, wAll_append, Nat.reduceAdd, hw0]
theorem ventry_W : WalkW Try.prog 91 thentry := ventry_w
set_option maxRecDepth 100000 in
set_option maxHeartbeats 4000000 in
theorem ventry_r (gp gr : Nat) (gb : Option Nat) (cb : Nat) (sb : List Value) (b : List UInt8) (hcb : b.length ≤ cb) (hbl : b.length ≤ 65536) (go o i e : Nat) (U : TypeId) (cs : List Value) (w0 : World) (H0 : Hp w0 w0 (bl (vr gp gr gb cb sb b i e ++ [(some go, U, cs)])) (vr gp gr gb cb sb b i e ++ [(some go, U, cs)])) (hi : i ≤ b.length) (hat : At cs o thentry.zs) (hfit : o + thentry.sz ≤ cs.length) :
    Does Try.prog 91 #[.pointer (some ⟨gp, 0, none⟩), .pointer (some ⟨go, o, none⟩)] w0 (fun _ w' => RdOut (vr gp gr gb cb sb b) thentry go o U cs b i e w0.heap.size w0 (bl (vr gp gr gb cb sb b i e ++ [(some go, U, cs)])) w') := by
  refine does_of Try.func91 Try.ntmps91 rfl ?_
  change Run _ _ _ _ [.pointer (some ⟨gp, 0, none⟩), .pointer (some ⟨go, o, none⟩), undef, undef, undef, undef, undef, undef, undef, undef, undef, undef, undef, undef] _
  change o + 2 ≤ cs.length at hfit
  have HS := RSt.start (R := vr gp gr gb cb sb b) (o := o) H0 hi
  have H := HS.H.here
  refine run_seq ?_
  refine run_region ?_
  refine ops_val (ex_move rfl) ?_
  refine ops_val (ex_move rfl) ?_
  refine ops_val (ex_nilCheck rfl) ?_
  change Ops _ _ _ _ _ _ [_, _, _, _, _, _, _, _, _, _, _, _, _, _] _
  refine ops_val (ex_fieldAddr fl46_0 rfl) ?_
  refine ops_call (ex_call gf97 rfl) (HS.one (q := 0) (vnum_R gp gr gb cb sb b hcb hbl) (by decide) (show o + 0 + 1 ≤ _ by omega) (At.cast (hat.trans (At.sub _ 0 1)) rfl)) ?_
  rintro _ w1 ⟨us, i1, e1, HS⟩
  replace HS := HS.join1
  have H1 := HS.H.here
  refine ops_nil ?_
  change Run _ _ _ _ [_, _, _, _, _, _, _, _, _, _, _, _, _, _] _
  refine run_region ?_
  refine ops_val (ex_move rfl) ?_
  refine ops_val (ex_move rfl) ?_
  refine ops_val (ex_nilCheck rfl) ?_
  change Ops _ _ _ _ _ _ [_, _, _, _, _, _, _, _, _, _, _, _, _, _] _
  refine ops_val (ex_fieldAddr fl46_1 rfl) ?_
  refine ops_call (ex_call gf81 rfl) (HS.one (q := 1) (vbytes_R gp gr gb cb sb b hcb hbl) (by decide) (show o + 1 + 1 ≤ _ by omega) (At.cast (hat.trans (At.sub _ 1 1)) rfl)) ?_
  rintro _ w2 ⟨us, i1, e1, HS⟩
  replace HS := HS.join1
  have H2 := HS.H.here
  refine ops_nil ?_
  change Run _ _ _ _ [_, _, _, _, _, _, _, _, _, _, _, _, _, _] _
  refine run_nil ?_
  refine fin_end0 rfl ?_
  exact HS.out
theorem ventry_R : WalkR Try.prog 91 thentry := ventry_r
set_option maxRecDepth 100000 in
set_option maxHeartbeats 4000000 in
theorem vright_w (gp go o : Nat) (g : Option Nat) (cap : Nat) (sp : List Value) (st : WS) (U : TypeId) (cs : List Value) (x : thright.X) (vs : List Value) (w0 : World) (m : Nat) (a : WS) (H0 : Hp w0 w0 (bl (vwo gp g cap sp st go U cs)) (vwo gp g cap sp st go U cs)) (hm : m + thright.mx ≤ 1000000000) (hP : POk m g cap sp st) (ha : Alike a st) (hM : thright.M w0 (fun b => b ∉ bl (vwo gp g cap sp st go U cs)) x vs) (hat : At cs o vs) :
    Does Try.prog 92 #[.pointer (some ⟨gp, 0, none⟩), .pointer (some ⟨go, o, none⟩)] w0 (fun _ w' => VwOut (m + thright.mx) gp (wAll (thright.fl x) a) go U cs w0 (bl (vwo gp g cap sp st go U cs)) w') := by
  refine does_of Try.func92 Try.ntmps92 rfl ?_
  change Run _ _ _ _ [.pointer (some ⟨gp, 0, none⟩), .pointer (some ⟨go, o, none⟩), undef, undef, undef, undef, undef, undef, undef, undef, undef, undef, undef, undef, undef, undef, undef, undef, undef, undef, undef, undef, undef] _
  change m + 262180 ≤ 1000000000 at hm
  have HS : VSt gp go o w0 (bl (vwo gp g cap sp st go U cs)) w0 (m + 0) a st thright x vs U cs g cap sp := ⟨H0, hP, ha, hM, hat⟩
  have H := HS.H.here
  refine run_seq ?_
  refine run_region ?_
  refine ops_val (ex_move rfl) ?_
  refine ops_val (ex_move rfl) ?_
  refine ops_val (ex_nilCheck rfl) ?_
  change Ops _ _ _ _ _ _ [_, _, _, _, _, _, _, _, _, _, _, _, _, _, _, _, _, _, _, _, _, _, _] _
  refine ops_val (ex_fieldAddr fl48_0 rfl) ?_
  refine ops_call (ex_call gf97 rfl) (HS.one (p := 0) vnum_W (show m + 0 + 65545 ≤ _ by omega) (fun _ _ hM => (Th.part hM 0 1)) (At.cast (At.trans (At.self _) (At.sub _ 0 1)) (by decide))) ?_
  rintro _ w1 ⟨st, g, cap, sp, HS0⟩
  have HS := VSt.re HS0 (m2 := m + 65545) (by show m + 0 + 65545 = m + 65545; omega)
  have H1 := HS.H.here
  refine ops_nil ?_
  change Run _ _ _ _ [_, _, _, _, _, _, _, _, _, _, _, _, _, _, _, _, _, _, _, _, _, _, _] _
  refine run_seq ?_
  refine run_region ?_
  refine ops_val (ex_move rfl) ?_
  refine ops_val (ex_move rfl) ?_
  refine ops_val (ex_nilCheck rfl) ?_
  change Ops _ _ _ _ _ _ [_, _, _, _, _, _, _, _, _, _, _, _, _, _, _, _, _, _, _, _, _, _, _] _
  refine ops_val (ex_fieldAddr fl48_1 rfl) ?_
  refine ops_call (ex_call gf77 rfl) (HS.one (p := 1) vtext_W (show m + 65545 + 65545 ≤ _ by omega) (fun _ _ hM => (Th.part hM 1 1)) (At.cast (At.trans (At.self _) (At.sub _ 1 1)) (by decide))) ?_
  rintro _ w2 ⟨st, g, cap, sp, HS0⟩
  have HS := VSt.re HS0 (m2 := m + 131090) (by show m + 65545 + 65545 = m + 131090; omega)
  have H2 := HS.H.here
  refine ops_nil ?_
  change Run _ _ _ _ [_, _, _, _, _, _, _, _, _, _, _, _, _, _, _, _, _, _, _, _, _, _, _] _
  refine run_mixZ 8 [(true, 0), (true, 1), (true, 2), (true, 3), (true, 4), (true, 5), (true, 6), (false, 7), (false, 8)] H2 [0, 1, 2] mixed (by decide) (by kernel_rfl) ?_
  rintro w3 hw3
  have H3 := Hp.drew H2; rw [← hw3] at H3
  refine mixz_p rfl ?_
  refine mix1_val (fun wz hz => ex_move rfl) ?_
  refine mixz_p rfl ?_
  refine mix1_val (fun wz hz => ex_move rfl) ?_
  refine mixz_p rfl ?_
  refine mix1_val (fun wz hz => ex_nilCheck rfl) ?_
  change MixZ _ _ _ _ _ _ [_, _, _, _, _, _, _, _, _, _, _, _, _, _, _, _, _, _, _, _, _, _, _] _
  refine mixz_p rfl ?_
  refine mix1_val (fun wz hz => ex_fieldAddr fl48_2 rfl) ?_
  refine mixz_p rfl ?_
  refine mix1_val (fun wz hz => ex_move rfl) ?_
  refine mixz_p rfl ?_
  refine mix1_val (fun wz hz => ex_nilCheck rfl) ?_
  change MixZ _ _ _ _ _ _ [_, _, _, _, _, _, _, _, _, _, _, _, _, _, _, _, _, _, _, _, _, _, _] _
  refine mixz_p rfl ?_
  refine mix1_val (fun wz hz => ex_fieldAddr fl48_3 rfl) ?_
  refine mixz_o rfl ?_
  refine ops_buildSlice Try.underlying177 ty126 H3 rfl (by decide) rfl ?_
  intro w4 g4 H4 hg4
  refine ops_nil ?_
  refine ⟨fun hne => H4.pick [0, 1, 2] (by decide), ?_⟩
  change MixZ _ _ _ _ _ _ [_, _, _, _, _, _, _, _, _, _, _, _, _, _, _, _, _, _, _, _, _, _, _] _
  refine mixz_o rfl ?_
  refine ops_call (ex_call gf76 rfl) (HS.grp (p := 2) vnums_W H4 (by decide) (show m + 131090 + 131090 ≤ _ by omega) (fun _ _ hM => (Th.part hM 2 2)) (At.cast (At.trans (At.self _) (At.sub _ 2 2)) (by decide))) ?_
  rintro _ w5 ⟨st, g, cap, sp, HS0⟩
  have HS := VSt.re HS0 (m2 := m + 262180) (by show m + 131090 + 131090 = m + 262180; omega)
  have H5 := HS.H.here
  refine ops_nil ?_
  refine ⟨fun hne => absurd rfl hne, ?_⟩
  change MixZ _ _ _ _ _ _ [_, _, _, _, _, _, _, _, _, _, _, _, _, _, _, _, _, _, _, _, _, _, _] _
  refine mixz_nil ?_
  change Run _ _ _ _ [_, _, _, _, _, _, _, _, _, _, _, _, _, _, _, _, _, _, _, _, _, _, _] _
  refine run_nil ?_
  refine fin_end0 rfl ?_
  have hw0 : List.take 4 x = x := Th.whole hM
  refine HS.out2 ?_ rfl
  show _ = wAll (x) a
  simp only [List.drop_zero, wAll_part, wAll_append, Nat.reduceAdd, hw0]
theorem vright_W : WalkW Try.prog 92 thright := vright_w
set_option maxRecDepth 100000 in
set_option maxHeartbeats 4000000 in
theorem vright_r (gp gr : Nat) (gb : Option Nat) (cb : Nat) (sb : List Value) (b : List UInt8) (hcb : b.length ≤ cb) (hbl : b.length ≤ 65536) (go o i e : Nat) (U : TypeId) (cs : List Value) (w0 : World) (H0 : Hp w0 w0 (bl (vr gp gr gb cb sb b i e ++ [(some go, U, cs)])) (vr gp gr gb cb sb b i e ++ [(some go, U, cs)])) (hi : i ≤ b.length) (hat : At cs o thright.zs) (hfit : o + thright.sz ≤ cs.length) :
    Does Try.prog 92 #[.pointer (some ⟨gp, 0, none⟩), .pointer (some ⟨go, o, none⟩)] w0 (fun _ w' => RdOut (vr gp gr gb cb sb b) thright go o U cs b i e w0.heap.size w0 (bl (vr gp gr gb cb sb b i e ++ [(some go, U, cs)])) w') := by
  refine does_of Try.func92 Try.ntmps92 rfl ?_
  change Run _ _ _ _ [.pointer (some ⟨gp, 0, none⟩), .pointer (some ⟨go, o, none⟩), undef, undef, undef, undef, undef, undef, undef, undef, undef, undef, undef, undef, undef, undef, undef, undef, undef, undef, undef, undef, undef] _
  change o + 4 ≤ cs.length at hfit
  have HS := RSt.start (R := vr gp gr gb cb sb b) (o := o) H0 hi
  have H := HS.H.here
  refine run_seq ?_
  refine run_region ?_
  refine ops_val (ex_move rfl) ?_
  refine ops_val (ex_move rfl) ?_
  refine ops_val (ex_nilCheck rfl) ?_
  change Ops _ _ _ _ _ _ [_, _, _, _, _, _, _, _, _, _, _, _, _, _, _, _, _, _, _, _, _, _, _] _
  refine ops_val (ex_fieldAddr fl48_0 rfl) ?_
  refine ops_call (ex_call gf97 rfl) (HS.one (q := 0) (vnum_R gp gr gb cb sb b hcb hbl) (by decide) (show o + 0 + 1 ≤ _ by omega) (At.cast (hat.trans (At.sub _ 0 1)) rfl)) ?_
  rintro _ w1 ⟨us, i1, e1, HS⟩
  replace HS := HS.join1
  have H1 := HS.H.here
  refine ops_nil ?_
  change Run _ _ _ _ [_, _, _, _, _, _, _, _, _, _, _, _, _, _, _, _, _, _, _, _, _, _, _] _
  refine run_seq ?_
  refine run_region ?_
  refine ops_val (ex_move rfl) ?_
  refine ops_val (ex_move rfl) ?_
  refine ops_val (ex_nilCheck rfl) ?_
  change Ops _ _ _ _ _ _ [_, _, _, _, _, _, _, _, _, _, _, _, _, _, _, _, _, _, _, _, _, _, _] _
  refine ops_val (ex_fieldAddr fl48_1 rfl) ?_
  refine ops_call (ex_call gf77 rfl) (HS.one (q := 1) (vtext_R gp gr gb cb sb b hcb hbl) (by decide) (show o + 1 + 1 ≤ _ by omega) (At.cast (hat.trans (At.sub _ 1 1)) rfl)) ?_
  rintro _ w2 ⟨us, i1, e1, HS⟩
  replace HS := HS.join1
  have H2 := HS.H.here
  refine ops_nil ?_
  change Run _ _ _ _ [_, _, _, _, _, _, _, _, _, _, _, _, _, _, _, _, _, _, _, _, _, _, _] _
  refine run_mixZ 8 [(true, 0), (true, 1), (true, 2), (true, 3), (true, 4), (true, 5), (true, 6), (false, 7), (false, 8)] H2 [0, 1, 2, 3] mixed (by decide) (by kernel_rfl) ?_
  rintro w3 hw3
  have H3 := Hp.drew H2; rw [← hw3] at H3
  refine mixz_p rfl ?_
  refine mix1_val (fun wz hz => ex_move rfl) ?_
  refine mixz_p rfl ?_
  refine mix1_val (fun wz hz => ex_move rfl) ?_
  refine mixz_p rfl ?_
  refine mix1_val (fun wz hz => ex_nilCheck rfl) ?_
  change MixZ _ _ _ _ _ _ [_, _, _, _, _, _, _, _, _, _, _, _, _, _, _, _, _, _, _, _, _, _, _] _
  refine mixz_p rfl ?_
  refine mix1_val (fun wz hz => ex_fieldAddr fl48_2 rfl) ?_
  refine mixz_p rfl ?_
  refine mix1_val (fun wz hz => ex_move rfl) ?_
  refine mixz_p rfl ?_
  refine mix1_val (fun wz hz => ex_nilCheck rfl) ?_
  change MixZ _ _ _ _ _ _ [_, _, _, _, _, _, _, _, _, _, _, _, _, _, _, _, _, _, _, _, _, _, _] _
  refine mixz_p rfl ?_
  refine mix1_val (fun wz hz => ex_fieldAddr fl48_3 rfl) ?_
  refine mixz_o rfl ?_
  refine ops_buildSlice Try.underlying177 ty126 H3 rfl (by decide) rfl ?_
  intro w4 g4 H4 hg4
  refine ops_nil ?_
  refine ⟨fun hne => H4.pick [0, 1, 2, 3] (by decide), ?_⟩
  change MixZ _ _ _ _ _ _ [_, _, _, _, _, _, _, _, _, _, _, _, _, _, _, _, _, _, _, _, _, _, _] _
  refine mixz_o rfl ?_
  refine ops_call (ex_call gf76 rfl) (HS.grp (q := 2) (vnums_R gp gr gb cb sb b hcb hbl) (by decide) H4 (by decide) (show o + 2 + 2 ≤ _ by omega) (At.cast (hat.trans (At.sub _ 2 2)) rfl) rfl rfl) ?_
  rintro _ w5 ⟨us, i1, e1, HS⟩
  replace HS := HS.join1
  have H5 := HS.H.here
  refine ops_nil ?_
  refine ⟨fun hne => absurd rfl hne, ?_⟩
  change MixZ _ _ _ _ _ _ [_, _, _, _, _, _, _, _, _, _, _, _, _, _, _, _, _, _, _, _, _, _, _] _
  refine mixz_nil ?_
  change Run _ _ _ _ [_, _, _, _, _, _, _, _, _, _, _, _, _, _, _, _, _, _, _, _, _, _, _] _
  refine run_nil ?_
  refine fin_end0 rfl ?_
  exact HS.out
theorem vright_R : WalkR Try.prog 92 thright := vright_r
set_option maxRecDepth 100000 in
set_option maxHeartbeats 4000000 in
theorem vop_w (gp go o : Nat) (g : Option Nat) (cap : Nat) (sp : List Value) (st : WS) (U : TypeId) (cs : List Value) (x : thop.X) (vs : List Value) (w0 : World) (m : Nat) (a : WS) (H0 : Hp w0 w0 (bl (vwo gp g cap sp st go U cs)) (vwo gp g cap sp st go U cs)) (hm : m + thop.mx ≤ 1000000000) (hP : POk m g cap sp st) (ha : Alike a st) (hM : thop.M w0 (fun b => b ∉ bl (vwo gp g cap sp st go U cs)) x vs) (hat : At cs o vs) :
    Does Try.prog 79 #[.pointer (some ⟨gp, 0, none⟩), .pointer (some ⟨go, o, none⟩)] w0 (fun _ w' => VwOut (m + thop.mx) gp (wAll (thop.fl x) a) go U cs w0 (bl (vwo gp g cap sp st go U cs)) w') := by
  refine does_of Try.func79 Try.ntmps79 rfl ?_
  change Run _ _ _ _ [.pointer (some ⟨gp, 0, none⟩), .pointer (some ⟨go, o, none⟩), undef, undef, undef, undef, undef, undef, undef, undef, undef, undef, undef, undef, undef, undef, undef, undef, undef, undef, undef, undef, undef, undef, undef, undef, undef, undef, undef, undef, undef] _
  change m + 393270 ≤ 1000000000 at hm
  have HS : VSt gp go o w0 (bl (vwo gp g cap sp st go U cs)) w0 (m + 0) a st thop x vs U cs g cap sp := ⟨H0, hP, ha, hM, hat⟩
  have H := HS.H.here
  refine run_seq ?_
  refine run_region ?_
  refine ops_val (ex_move rfl) ?_
  refine ops_val (ex_move rfl) ?_
  refine ops_val (ex_nilCheck rfl) ?_
  change Ops _ _ _ _ _ _ [_, _, _, _, _, _, _, _, _, _, _, _, _, _, _, _, _, _, _, _, _, _, _, _, _, _, _, _, _, _, _] _
  refine ops_val (ex_fieldAddr fl23_0 rfl) ?_
  refine ops_call (ex_call gf97 rfl) (HS.one (p := 0) vnum_W (show m + 0 + 65545 ≤ _ by omega) (fun _ _ hM => (Th.part hM 0 1)) (At.cast (At.trans (At.self _) (At.sub _ 0 1)) (by decide))) ?_
  rintro _ w1 ⟨st, g, cap, sp, HS0⟩
  have HS := VSt.re HS0 (m2 := m + 65545) (by show m + 0 + 65545 = m + 65545; omega)
  have H1 := HS.H.here
  refine ops_nil ?_
  change Run _ _ _ _ [_, _, _, _, _, _, _, _, _, _, _, _, _, _, _, _, _, _, _, _, _, _, _, _, _, _, _, _, _, _, _] _
  refine run_seq ?_
  refine run_region ?_
  refine ops_val (ex_move rfl) ?_
  refine ops_val (ex_move rfl) ?_
  refine ops_val (ex_nilCheck rfl) ?_
  change Ops _ _ _ _ _ _ [_, _, _, _, _, _, _, _, _, _, _, _, _, _, _, _, _, _, _, _, _, _, _, _, _, _, _, _, _, _, _] _
  refine ops_val (ex_fieldAddr fl23_1 rfl) ?_
  refine ops_call (ex_call gf77 rfl) (HS.one (p := 1) vtext_W (show m + 65545 + 65545 ≤ _ by omega) (fun _ _ hM => (Th.part hM 1 1)) (At.cast (At.trans (At.self _) (At.sub _ 1 1)) (by decide))) ?_
  rintro _ w2 ⟨st, g, cap, sp, HS0⟩
  have HS := VSt.re HS0 (m2 := m + 131090) (by show m + 65545 + 65545 = m + 131090; omega)
  have H2 := HS.H.here
  refine ops_nil ?_
  change Run _ _ _ _ [_, _, _, _, _, _, _, _, _, _, _, _, _, _, _, _, _, _, _, _, _, _, _, _, _, _, _, _, _, _, _] _
  refine run_seq ?_
  refine run_region ?_
  refine ops_val (ex_move rfl) ?_
  refine ops_val (ex_move rfl) ?_
  refine ops_val (ex_nilCheck rfl) ?_
  change Ops _ _ _ _ _ _ [_, _, _, _, _, _, _, _, _, _, _, _, _, _, _, _, _, _, _, _, _, _, _, _, _, _, _, _, _, _, _] _
  refine ops_val (ex_fieldAddr fl23_2 rfl) ?_
  refine ops_call (ex_call gf77 rfl) (HS.one (p := 2) vtext_W (show m + 131090 + 65545 ≤ _ by omega) (fun _ _ hM => (Th.part hM 2 1)) (At.cast (At.trans (At.self _) (At.sub _ 2 1)) (by decide))) ?_
  rintro _ w3 ⟨st, g, cap, sp, HS0⟩
  have HS := VSt.re HS0 (m2 := m + 196635) (by show m + 131090 + 65545 = m + 196635; omega)
  have H3 := HS.H.here
  refine ops_nil ?_
  change Run _ _ _ _ [_, _, _, _, _, _, _, _, _, _, _, _, _, _, _, _, _, _, _, _, _, _, _, _, _, _, _, _, _, _, _] _
  refine run_mixZ 11 [(true, 0), (true, 1), (true, 2), (true, 3), (true, 4), (true, 5), (true, 6), (true, 7), (true, 8), (true, 9), (false, 10), (false, 11)] H3 [0, 1, 2] mixed (by decide) (by kernel_rfl) ?_
  rintro w4 hw4
  have H4 := Hp.drew H3; rw [← hw4] at H4
  refine mixz_p rfl ?_
  refine mix1_val (fun wz hz => ex_move rfl) ?_
  refine mixz_p rfl ?_
  refine mix1_val (fun wz hz => ex_move rfl) ?_
  refine mixz_p rfl ?_
  refine mix1_val (fun wz hz => ex_nilCheck rfl) ?_
  change MixZ _ _ _ _ _ _ [_, _, _, _, _, _, _, _, _, _, _, _, _, _, _, _, _, _, _, _, _, _, _, _, _, _, _, _, _, _, _] _
  refine mixz_p rfl ?_
  refine mix1_val (fun wz hz => ex_fieldAddr fl23_3 rfl) ?_
  refine mixz_p rfl ?_
  refine mix1_val (fun wz hz => ex_move rfl) ?_
  refine mixz_p rfl ?_
  refine mix1_val (fun wz hz => ex_nilCheck rfl) ?_
  change MixZ _ _ _ _ _ _ [_, _, _, _, _, _, _, _, _, _, _, _, _, _, _, _, _, _, _, _, _, _, _, _, _, _, _, _, _, _, _] _
  refine mixz_p rfl ?_
  refine mix1_val (fun wz hz => ex_fieldAddr fl23_4 rfl) ?_
  refine mixz_p rfl ?_
  refine mix1_val (fun wz hz => ex_move rfl) ?_
  refine mixz_p rfl ?_
  refine mix1_val (fun wz hz => ex_nilCheck rfl) ?_
  change MixZ _ _ _ _ _ _ [_, _, _, _, _, _, _, _, _, _, _, _, _, _, _, _, _, _, _, _, _, _, _, _, _, _, _, _, _, _, _] _
  refine mixz_p rfl ?_
  refine mix1_val (fun wz hz => ex_fieldAddr fl23_5 rfl) ?_
  refine mixz_o rfl ?_
  refine ops_buildSlice Try.underlying177 ty126 H4 rfl (by decide) rfl ?_
  intro w5 g5 H5 hg5
  refine ops_nil ?_
  refine ⟨fun hne => H5.pick [0, 1, 2] (by decide), ?_⟩
  change MixZ _ _ _ _ _ _ [_, _, _, _, _, _, _, _, _, _, _, _, _, _, _, _, _, _, _, _, _, _, _, _, _, _, _, _, _, _, _] _
  refine mixz_o rfl ?_
  refine ops_call (ex_call gf76 rfl) (HS.grp (p := 3) vnums_W H5 (by decide) (show m + 196635 + 196635 ≤ _ by omega) (fun _ _ hM => (Th.part hM 3 3)) (At.cast (At.trans (At.self _) (At.sub _ 3 3)) (by decide))) ?_
  rintro _ w6 ⟨st, g, cap, sp, HS0⟩
  have HS := VSt.re HS0 (m2 := m + 393270) (by show m + 196635 + 196635 = m + 393270; omega)
  have H6 := HS.H.here
  refine ops_nil ?_
  refine ⟨fun hne => absurd rfl hne, ?_⟩
  change MixZ _ _ _ _ _ _ [_, _, _, _, _, _, _, _, _, _, _, _, _, _, _, _, _, _, _, _, _, _, _, _, _, _, _, _, _, _, _] _
  refine mixz_nil ?_
  change Run _ _ _ _ [_, _, _, _, _, _, _, _, _, _, _, _, _, _, _, _, _, _, _, _, _, _, _, _, _, _, _, _, _, _, _] _
  refine run_nil ?_
  refine fin_end0 rfl ?_
  have hw0 : List.take 6 x = x := Th.whole hM
  refine HS.out2 ?_ rfl
  show _ = wAll (x) a
  simp only [List.drop_zero, wAll_part, wAll_append, Nat.reduceAdd, hw0]
theorem vop_W : WalkW Try.prog 79 thop := vop_w
set_option maxRecDepth 100000 in
set_option maxHeartbeats 4000000 in
theorem vop_r (gp gr : Nat) (gb : Option Nat) (cb : Nat) (sb : List Value) (b : List UInt8) (hcb : b.length ≤ cb) (hbl : b.length ≤ 65536) (go o i e : Nat) (U : TypeId) (cs : List Value) (w0 : World) (H0 : Hp w0 w0 (bl (vr gp gr gb cb sb b i e ++ [(some go, U, cs)])) (vr gp gr gb cb sb b i e ++ [(some go, U, cs)])) (hi : i ≤ b.length) (hat : At cs o thop.zs) (hfit : o + thop.sz ≤ cs.length) :
    Does Try.prog 79 #[.pointer (some ⟨gp, 0, none⟩), .pointer (some ⟨go, o, none⟩)] w0 (fun _ w' => RdOut (vr gp gr gb cb sb b) thop go o U cs b i e w0.heap.size w0 (bl (vr gp gr gb cb sb b i e ++ [(some go, U, cs)])) w') := by
  refine does_of Try.func79 Try.ntmps79 rfl ?_
  change Run _ _ _ _ [.pointer (some ⟨gp, 0, none⟩), .pointer (some ⟨go, o, none⟩), undef, undef, undef, undef, undef, undef, undef, undef, undef, undef, undef, undef, undef, undef, undef, undef, undef, undef, undef, undef, undef, undef, undef, undef, undef, undef, undef, undef, undef] _
  change o + 6 ≤ cs.length at hfit
  have HS := RSt.start (R := vr gp gr gb cb sb b) (o := o) H0 hi
  have H := HS.H.here
  refine run_seq ?_
  refine run_region ?_
  refine ops_val (ex_move rfl) ?_
  refine ops_val (ex_move rfl) ?_
  refine ops_val (ex_nilCheck rfl) ?_
  change Ops _ _ _ _ _ _ [_, _, _, _, _, _, _, _, _, _, _, _, _, _, _, _, _, _, _, _, _, _, _, _, _, _, _, _, _, _, _] _
  refine ops_val (ex_fieldAddr fl23_0 rfl) ?_
  refine ops_call (ex_call gf97 rfl) (HS.one (q := 0) (vnum_R gp gr gb cb sb b hcb hbl) (by decide) (show o + 0 + 1 ≤ _ by omega) (At.cast (hat.trans (At.sub _ 0 1)) rfl)) ?_
  rintro _ w1 ⟨us, i1, e1, HS⟩
  replace HS := HS.join1
  have H1 := HS.H.here
  refine ops_nil ?_
  change Run _ _ _ _ [_, _, _, _, _, _, _, _, _, _, _, _, _, _, _, _, _, _, _, _, _, _, _, _, _, _, _, _, _, _, _] _
  refine run_seq ?_
  refine run_region ?_
  refine ops_val (ex_move rfl) ?_
  refine ops_val (ex_move rfl) ?_
  refine ops_val (ex_nilCheck rfl) ?_
  change Ops _ _ _ _ _ _ [_, _, _, _, _, _, _, _, _, _, _, _, _, _, _, _, _, _, _, _, _, _, _, _, _, _, _, _, _, _, _] _
  refine ops_val (ex_fieldAddr fl23_1 rfl) ?_
  refine ops_call (ex_call gf77 rfl) (HS.one (q := 1) (vtext_R gp gr gb cb sb b hcb hbl) (by decide) (show o + 1 + 1 ≤ _ by omega) (At.cast (hat.trans (At.sub _ 1 1)) rfl)) ?_
  rintro _ w2 ⟨us, i1, e1, HS⟩
  replace HS := HS.join1
  have H2 := HS.H.here
  refine ops_nil ?_
  change Run _ _ _ _ [_, _, _, _, _, _, _, _, _, _, _, _, _, _, _, _, _, _, _, _, _, _, _, _, _, _, _, _, _, _, _] _
  refine run_seq ?_
  refine run_region ?_
  refine ops_val (ex_move rfl) ?_
  refine ops_val (ex_move rfl) ?_
  refine ops_val (ex_nilCheck rfl) ?_
  change Ops _ _ _ _ _ _ [_, _, _, _, _, _, _, _, _, _, _, _, _, _, _, _, _, _, _, _, _, _, _, _, _, _, _, _, _, _, _] _
  refine ops_val (ex_fieldAddr fl23_2 rfl) ?_
  refine ops_call (ex_call gf77 rfl) (HS.one (q := 2) (vtext_R gp gr gb cb sb b hcb hbl) (by decide) (show o + 2 + 1 ≤ _ by omega) (At.cast (hat.trans (At.sub _ 2 1)) rfl)) ?_
  rintro _ w3 ⟨us, i1, e1, HS⟩
  replace HS := HS.join1
  have H3 := HS.H.here
  refine ops_nil ?_
  change Run _ _ _ _ [_, _, _, _, _, _, _, _, _, _, _, _, _, _, _, _, _, _, _, _, _, _, _, _, _, _, _, _, _, _, _] _
  refine run_mixZ 11 [(true, 0), (true, 1), (true, 2), (true, 3), (true, 4), (true, 5), (true, 6), (true, 7), (true, 8), (true, 9), (false, 10), (false, 11)] H3 [0, 1, 2, 3] mixed (by decide) (by kernel_rfl) ?_
  rintro w4 hw4
  have H4 := Hp.drew H3; rw [← hw4] at H4
  refine mixz_p rfl ?_
  refine mix1_val (fun wz hz => ex_move rfl) ?_
  refine mixz_p rfl ?_
  refine mix1_val (fun wz hz => ex_move rfl) ?_
  refine mixz_p rfl ?_
  refine mix1_val (fun wz hz => ex_nilCheck rfl) ?_
  change MixZ _ _ _ _ _ _ [_, _, _, _, _, _, _, _, _, _, _, _, _, _, _, _, _, _, _, _, _, _, _, _, _, _, _, _, _, _, _] _
  refine mixz_p rfl ?_
  refine mix1_val (fun wz hz => ex_fieldAddr fl23_3 rfl) ?_
  refine mixz_p rfl ?_
  refine mix1_val (fun wz hz => ex_move rfl) ?_
  refine mixz_p rfl ?_
  refine mix1_val (fun wz hz => ex_nilCheck rfl) ?_
  change MixZ _ _ _ _ _ _ [_, _, _, _, _, _, _, _, _, _, _, _, _, _, _, _, _, _, _, _, _, _, _, _, _, _, _, _, _, _, _] _
  refine mixz_p rfl ?_
  refine mix1_val (fun wz hz => ex_fieldAddr fl23_4 rfl) ?_
  refine mixz_p rfl ?_
  refine mix1_val (fun wz hz => ex_move rfl) ?_
  refine mixz_p rfl ?_
  refine mix1_val (fun wz hz => ex_nilCheck rfl) ?_
  change MixZ _ _ _ _ _ _ [_, _, _, _, _, _, _, _, _, _, _, _, _, _, _, _, _, _, _, _, _, _, _, _, _, _, _, _, _, _, _] _
  refine mixz_p rfl ?_
  refine mix1_val (fun wz hz => ex_fieldAddr fl23_5 rfl) ?_
  refine mixz_o rfl ?_
  refine ops_buildSlice Try.underlying177 ty126 H4 rfl (by decide) rfl ?_
  intro w5 g5 H5 hg5
  refine ops_nil ?_
  refine ⟨fun hne => H5.pick [0, 1, 2, 3] (by decide), ?_⟩
  change MixZ _ _ _ _ _ _ [_, _, _, _, _, _, _, _, _, _, _, _, _, _, _, _, _, _, _, _, _, _, _, _, _, _, _, _, _, _, _] _
  refine mixz_o rfl ?_
  refine ops_call (ex_call gf76 rfl) (HS.grp (q := 3) (vnums_R gp gr gb cb sb b hcb hbl) (by decide) H5 (by decide) (show o + 3 + 3 ≤ _ by omega) (At.cast (hat.trans (At.sub _ 3 3)) rfl) rfl rfl) ?_
  rintro _ w6 ⟨us, i1, e1, HS⟩
  replace HS := HS.join1
  have H6 := HS.H.here
  refine ops_nil ?_
  refine ⟨fun hne => absurd rfl hne, ?_⟩
  change MixZ _ _ _ _ _ _ [_, _, _, _, _, _, _, _, _, _, _, _, _, _, _, _, _, _, _, _, _, _, _, _, _, _, _, _, _, _, _] _
  refine mixz_nil ?_
  change Run _ _ _ _ [_, _, _, _, _, _, _, _, _, _, _, _, _, _, _, _, _, _, _, _, _, _, _, _, _, _, _, _, _, _, _] _
  refine run_nil ?_
  refine fin_end0 rfl ?_
  exact HS.out
theorem vop_R : WalkR Try.prog 79 thop := vop_r
set_option maxRecDepth 100000 in
set_option maxHeartbeats 4000000 in
theorem vplan_w (gp go o : Nat) (g : Option Nat) (cap : Nat) (sp : List Value) (st : WS) (U : TypeId) (cs : List Value) (x : thplan.X) (vs : List Value) (w0 : World) (m : Nat) (a : WS) (H0 : Hp w0 w0 (bl (vwo gp g cap sp st go U cs)) (vwo gp g cap sp st go U cs)) (hm : m + thplan.mx ≤ 1000000000) (hP : POk m g cap sp st) (ha : Alike a st) (hM : thplan.M w0 (fun b => b ∉ bl (vwo gp g cap sp st go U cs)) x vs) (hat : At cs o vs) :
    Does Try.prog 80 #[.pointer (some ⟨gp, 0, none⟩), .pointer (some ⟨go, o, none⟩)] w0 (fun _ w' => VwOut (m + thplan.mx) gp (wAll (thplan.fl x) a) go U cs w0 (bl (vwo gp g cap sp st go U cs)) w') := by
  refine does_of Try.func80 Try.ntmps80 rfl ?_
  change Run _ _ _ _ [.pointer (some ⟨gp, 0, none⟩), .pointer (some ⟨go, o, none⟩), undef, undef, undef, undef, undef, undef, undef, undef, undef, undef, undef, undef, undef, undef, undef, undef, undef, undef, undef, undef, undef, undef, undef, undef, undef, undef, undef, undef, undef, undef, undef, undef, undef] _
  change m + 458815 ≤ 1000000000 at hm
  have HS : VSt gp go o w0 (bl (vwo gp g cap sp st go U cs)) w0 (m + 0) a st thplan x vs U cs g cap sp := ⟨H0, hP, ha, hM, hat⟩
  have H := HS.H.here
  refine run_seq ?_
  refine run_mixZ 11 [(true, 0), (true, 1), (true, 2), (true, 3), (true, 4), (true, 5), (true, 6), (true, 7), (true, 8), (true, 9), (false, 10), (false, 11)] H [0, 1, 2] mixed (by decide) (by kernel_rfl) ?_
  rintro w1 hw1
  have H1 := Hp.drew H; rw [← hw1] at H1
  refine mixz_p rfl ?_
  refine mix1_val (fun wz hz => ex_move rfl) ?_
  refine mixz_p rfl ?_
  refine mix1_val (fun wz hz => ex_move rfl) ?_
  refine mixz_p rfl ?_
  refine mix1_val (fun wz hz => ex_nilCheck rfl) ?_
  change MixZ _ _ _ _ _ _ [_, _, _, _, _, _, _, _, _, _, _, _, _, _, _, _, _, _, _, _, _, _, _, _, _, _, _, _, _, _, _, _, _, _, _] _
  refine mixz_p rfl ?_
  refine mix1_val (fun wz hz => ex_fieldAddr fl25_0 rfl) ?_
  refine mixz_p rfl ?_
  refine mix1_val (fun wz hz => ex_move rfl) ?_
  refine mixz_p rfl ?_
  refine mix1_val (fun wz hz => ex_nilCheck rfl) ?_
  change MixZ _ _ _ _ _ _ [_, _, _, _, _, _, _, _, _, _, _, _, _, _, _, _, _, _, _, _, _, _, _, _, _, _, _, _, _, _, _, _, _, _, _] _
  refine mixz_p rfl ?_
  refine mix1_val (fun wz hz => ex_fieldAddr fl25_1 rfl) ?_
  refine mixz_p rfl ?_
  refine mix1_val (fun wz hz => ex_move rfl) ?_
  refine mixz_p rfl ?_
  refine mix1_val (fun wz hz => ex_nilCheck rfl) ?_
  change MixZ _ _ _ _ _ _ [_, _, _, _, _, _, _, _, _, _, _, _, _, _, _, _, _, _, _, _, _, _, _, _, _, _, _, _, _, _, _, _, _, _, _] _
  refine mixz_p rfl ?_
  refine mix1_val (fun wz hz => ex_fieldAddr fl25_2 rfl) ?_
  refine mixz_o rfl ?_
  refine ops_buildSlice Try.underlying177 ty126 H1 rfl (by decide) rfl ?_
  intro w2 g2 H2 hg2
  refine ops_nil ?_
  refine ⟨fun hne => H2.pick [0, 1, 2] (by decide), ?_⟩
  change MixZ _ _ _ _ _ _ [_, _, _, _, _, _, _, _, _, _, _, _, _, _, _, _, _, _, _, _, _, _, _, _, _, _, _, _, _, _, _, _, _, _, _] _
  refine mixz_o rfl ?_
  refine ops_call (ex_call gf76 rfl) (HS.grp (p := 0) vnums_W H2 (by decide) (show m + 0 + 196635 ≤ _ by omega) (fun _ _ hM => (Th.part hM 0 3)) (At.cast (At.trans (At.self _) (At.sub _ 0 3)) (by decide))) ?_
  rintro _ w3 ⟨st, g, cap, sp, HS0⟩
  have HS := VSt.re HS0 (m2 := m + 196635) (by show m + 0 + 196635 = m + 196635; omega)
  have H3 := HS.H.here
  refine ops_nil ?_
  refine ⟨fun hne => absurd rfl hne, ?_⟩
  change MixZ _ _ _ _ _ _ [_, _, _, _, _, _, _, _, _, _, _, _, _, _, _, _, _, _, _, _, _, _, _, _, _, _, _, _, _, _, _, _, _, _, _] _
  refine mixz_nil ?_
  change Run _ _ _ _ [_, _, _, _, _, _, _, _, _, _, _, _, _, _, _, _, _, _, _, _, _, _, _, _, _, _, _, _, _, _, _, _, _, _, _] _
  refine run_seq ?_
  refine run_region ?_
  refine ops_val (ex_move rfl) ?_
  refine ops_val (ex_move rfl) ?_
  refine ops_val (ex_nilCheck rfl) ?_
  change Ops _ _ _ _ _ _ [_, _, _, _, _, _, _, _, _, _, _, _, _, _, _, _, _, _, _, _, _, _, _, _, _, _, _, _, _, _, _, _, _, _, _] _
  refine ops_val (ex_fieldAddr fl25_3 rfl) ?_
  refine ops_call (ex_call gf77 rfl) (HS.one (p := 3) vtext_W (show m + 196635 + 65545 ≤ _ by omega) (fun _ _ hM => (Th.part hM 3 1)) (At.cast (At.trans (At.self _) (At.sub _ 3 1)) (by decide))) ?_
  rintro _ w4 ⟨st, g, cap, sp, HS0⟩
  have HS := VSt.re HS0 (m2 := m + 262180) (by show m + 196635 + 65545 = m + 262180; omega)
  have H4 := HS.H.here
  refine ops_nil ?_
  change Run _ _ _ _ [_, _, _, _, _, _, _, _, _, _, _, _, _, _, _, _, _, _, _, _, _, _, _, _, _, _, _, _, _, _, _, _, _, _, _] _
  refine run_seq ?_
  refine run_region ?_
  refine ops_val (ex_move rfl) ?_
  refine ops_val (ex_move rfl) ?_
  refine ops_val (ex_nilCheck rfl) ?_
  change Ops _ _ _ _ _ _ [_, _, _, _, _, _, _, _, _, _, _, _, _, _, _, _, _, _, _, _, _, _, _, _, _, _, _, _, _, _, _, _, _, _, _] _
  refine ops_val (ex_fieldAddr fl25_4 rfl) ?_
  refine ops_call (ex_call gf77 rfl) (HS.one (p := 4) vtext_W (show m + 262180 + 65545 ≤ _ by omega) (fun _ _ hM => (Th.part hM 4 1)) (At.cast (At.trans (At.self _) (At.sub _ 4 1)) (by decide))) ?_
  rintro _ w5 ⟨st, g, cap, sp, HS0⟩
  have HS := VSt.re HS0 (m2 := m + 327725) (by show m + 262180 + 65545 = m + 327725; omega)
  have H5 := HS.H.here
  refine ops_nil ?_
  change Run _ _ _ _ [_, _, _, _, _, _, _, _, _, _, _, _, _, _, _, _, _, _, _, _, _, _, _, _, _, _, _, _, _, _, _, _, _, _, _] _
  refine run_mixZ 8 [(true, 0), (true, 1), (true, 2), (true, 3), (true, 4), (true, 5), (true, 6), (false, 7), (false, 8)] H5 [0, 1, 2] mixed (by decide) (by kernel_rfl) ?_
  rintro w6 hw6
  have H6 := Hp.drew H5; rw [← hw6] at H6
  refine mixz_p rfl ?_
  refine mix1_val (fun wz hz => ex_move rfl) ?_
  refine mixz_p rfl ?_
  refine mix1_val (fun wz hz => ex_move rfl) ?_
  refine mixz_p rfl ?_
  refine mix1_val (fun wz hz => ex_nilCheck rfl) ?_
  change MixZ _ _ _ _ _ _ [_, _, _, _, _, _, _, _, _, _, _, _, _, _, _, _, _, _, _, _, _, _, _, _, _, _, _, _, _, _, _, _, _, _, _] _
  refine mixz_p rfl ?_
  refine mix1_val (fun wz hz => ex_fieldAddr fl25_5 rfl) ?_
  refine mixz_p rfl ?_
  refine mix1_val (fun wz hz => ex_move rfl) ?_
  refine mixz_p rfl ?_
  refine mix1_val (fun wz hz => ex_nilCheck rfl) ?_
  change MixZ _ _ _ _ _ _ [_, _, _, _, _, _, _, _, _, _, _, _, _, _, _, _, _, _, _, _, _, _, _, _, _, _, _, _, _, _, _, _, _, _, _] _
  refine mixz_p rfl ?_
  refine mix1_val (fun wz hz => ex_fieldAddr fl25_6 rfl) ?_
  refine mixz_o rfl ?_
  refine ops_buildSlice Try.underlying177 ty126 H6 rfl (by decide) rfl ?_
  intro w7 g7 H7 hg7
  refine ops_nil ?_
  refine ⟨fun hne => H7.pick [0, 1, 2] (by decide), ?_⟩
  change MixZ _ _ _ _ _ _ [_, _, _, _, _, _, _, _, _, _, _, _, _, _, _, _, _, _, _, _, _, _, _, _, _, _, _, _, _, _, _, _, _, _, _] _
  refine mixz_o rfl ?_
  refine ops_call (ex_call gf76 rfl) (HS.grp (p := 5) vnums_W H7 (by decide) (show m + 327725 + 131090 ≤ _ by omega) (fun _ _ hM => (Th.part hM 5 2)) (At.cast (At.trans (At.self _) (At.sub _ 5 2)) (by decide))) ?_
  rintro _ w8 ⟨st, g, cap, sp, HS0⟩
  have HS := VSt.re HS0 (m2 := m + 458815) (by show m + 327725 + 131090 = m + 458815; omega)
  have H8 := HS.H.here
  refine ops_nil ?_
  refine ⟨fun hne => absurd rfl hne, ?_⟩
  change MixZ _ _ _ _ _ _ [_, _, _, _, _, _, _, _, _, _, _, _, _, _, _, _, _, _, _, _, _, _, _, _, _, _, _, _, _, _, _, _, _, _, _] _
  refine mixz_nil ?_
  change Run _ _ _ _ [_, _, _, _, _, _, _, _, _, _, _, _, _, _, _, _, _, _, _, _, _, _, _, _, _, _, _, _, _, _, _, _, _, _, _] _
  refine run_nil ?_
  refine fin_end0 rfl ?_
  have hw0 : List.take 7 x = x := Th.whole hM
  refine HS.out2 ?_ rfl
  show _ = wAll (x) a
  simp only [List.drop_zero, wAll_part, wAll_append, Nat.reduceAdd, hw0]
theorem vplan_W : WalkW Try.prog 80 thplan := vplan_w
set_option maxRecDepth 100000 in
set_option maxHeartbeats 4000000 in
theorem vplan_r (gp gr : Nat) (gb : Option Nat) (cb : Nat) (sb : List Value) (b : List UInt8) (hcb : b.length ≤ cb) (hbl : b.length ≤ 65536) (go o i e : Nat) (U : TypeId) (cs : List Value) (w0 : World) (H0 : Hp w0 w0 (bl (vr gp gr gb cb sb b i e ++ [(some go, U, cs)])) (vr gp gr gb cb sb b i e ++ [(some go, U, cs)])) (hi : i ≤ b.length) (hat : At cs o thplan.zs) (hfit : o + thplan.sz ≤ cs.length) :
    Does Try.prog 80 #[.pointer (some ⟨gp, 0, none⟩), .pointer (some ⟨go, o, none⟩)] w0 (fun _ w' => RdOut (vr gp gr gb cb sb b) thplan go o U cs b i e w0.heap.size w0 (bl (vr gp gr gb cb sb b i e ++ [(some go, U, cs)])) w') := by
  refine does_of Try.func80 Try.ntmps80 rfl ?_
  change Run _ _ _ _ [.pointer (some ⟨gp, 0, none⟩), .pointer (some ⟨go, o, none⟩), undef, undef, undef, undef, undef, undef, undef, undef, undef, undef, undef, undef, undef, undef, undef, undef, undef, undef, undef, undef, undef, undef, undef, undef, undef, undef, undef, undef, undef, undef, undef, undef, undef] _
  change o + 7 ≤ cs.length at hfit
  have HS := RSt.start (R := vr gp gr gb cb sb b) (o := o) H0 hi
  have H := HS.H.here
  refine run_seq ?_
  refine run_mixZ 11 [(true, 0), (true, 1), (true, 2), (true, 3), (true, 4), (true, 5), (true, 6), (true, 7), (true, 8), (true, 9), (false, 10), (false, 11)] H [0, 1, 2, 3] mixed (by decide) (by kernel_rfl) ?_
  rintro w1 hw1
  have H1 := Hp.drew H; rw [← hw1] at H1
  refine mixz_p rfl ?_
  refine mix1_val (fun wz hz => ex_move rfl) ?_
  refine mixz_p rfl ?_
  refine mix1_val (fun wz hz => ex_move rfl) ?_
  refine mixz_p rfl ?_
  refine mix1_val (fun wz hz => ex_nilCheck rfl) ?_
  change MixZ _ _ _ _ _ _ [_, _, _, _, _, _, _, _, _, _, _, _, _, _, _, _, _, _, _, _, _, _, _, _, _, _, _, _, _, _, _, _, _, _, _] _
  refine mixz_p rfl ?_
  refine mix1_val (fun wz hz => ex_fieldAddr fl25_0 rfl) ?_
  refine mixz_p rfl ?_
  refine mix1_val (fun wz hz => ex_move rfl) ?_
  refine mixz_p rfl ?_
  refine mix1_val (fun wz hz => ex_nilCheck rfl) ?_
  change MixZ _ _ _ _ _ _ [_, _, _, _, _, _, _, _, _, _, _, _, _, _, _, _, _, _, _, _, _, _, _, _, _, _, _, _, _, _, _, _, _, _, _] _
  refine mixz_p rfl ?_
  refine mix1_val (fun wz hz => ex_fieldAddr fl25_1 rfl) ?_
  refine mixz_p rfl ?_
  refine mix1_val (fun wz hz => ex_move rfl) ?_
  refine mixz_p rfl ?_
  refine mix1_val (fun wz hz => ex_nilCheck rfl) ?_
  change MixZ _ _ _ _ _ _ [_, _, _, _, _, _, _, _, _, _, _, _, _, _, _, _, _, _, _, _, _, _, _, _, _, _, _, _, _, _, _, _, _, _, _] _
  refine mixz_p rfl ?_
  refine mix1_val (fun wz hz => ex_fieldAddr fl25_2 rfl) ?_
  refine mixz_o rfl ?_
  refine ops_buildSlice Try.underlying177 ty126 H1 rfl (by decide) rfl ?_
  intro w2 g2 H2 hg2
  refine ops_nil ?_
  refine ⟨fun hne => H2.pick [0, 1, 2, 3] (by decide), ?_⟩
  change MixZ _ _ _ _ _ _ [_, _, _, _, _, _, _, _, _, _, _, _, _, _, _, _, _, _, _, _, _, _, _, _, _, _, _, _, _, _, _, _, _, _, _] _
  refine mixz_o rfl ?_
  refine ops_call (ex_call gf76 rfl) (HS.grp (q := 0) (vnums_R gp gr gb cb sb b hcb hbl) (by decide) H2 (by decide) (show o + 0 + 3 ≤ _ by omega) (At.cast (hat.trans (At.sub _ 0 3)) rfl) rfl rfl) ?_
  rintro _ w3 ⟨us, i1, e1, HS⟩
  replace HS := HS.join1
  have H3 := HS.H.here
  refine ops_nil ?_
  refine ⟨fun hne => absurd rfl hne, ?_⟩
  change MixZ _ _ _ _ _ _ [_, _, _, _, _, _, _, _, _, _, _, _, _, _, _, _, _, _, _, _, _, _, _, _, _, _, _, _, _, _, _, _, _, _, _] _
  refine mixz_nil ?_
  change Run _ _ _ _ [_, _, _, _, _, _, _, _, _, _, _, _, _, _, _, _, _, _, _, _, _, _, _, _, _, _, _, _, _, _, _, _, _, _, _] _
  refine run_seq ?_
  refine run_region ?_
  refine ops_val (ex_move rfl) ?_
  refine ops_val (ex_move rfl) ?_
  refine ops_val (ex_nilCheck rfl) ?_
  change Ops _ _ _ _ _ _ [_, _, _, _, _, _, _, _, _, _, _, _, _, _, _, _, _, _, _, _, _, _, _, _, _, _, _, _, _, _, _, _, _, _, _] _
  refine ops_val (ex_fieldAddr fl25_3 rfl) ?_
  refine ops_call (ex_call gf77 rfl) (HS.one (q := 3) (vtext_R gp gr gb cb sb b hcb hbl) (by decide) (show o + 3 + 1 ≤ _ by omega) (At.cast (hat.trans (At.sub _ 3 1)) rfl)) ?_
  rintro _ w4 ⟨us, i1, e1, HS⟩
  replace HS := HS.join1
  have H4 := HS.H.here
  refine ops_nil ?_
  change Run _ _ _ _ [_, _, _, _, _, _, _, _, _, _, _, _, _, _, _, _, _, _, _, _, _, _, _, _, _, _, _, _, _, _, _, _, _, _, _] _
  refine run_seq ?_
  refine run_region ?_
  refine ops_val (ex_move rfl) ?_
  refine ops_val (ex_move rfl) ?_
  refine ops_val (ex_nilCheck rfl) ?_
  change Ops _ _ _ _ _ _ [_, _, _, _, _, _, _, _, _, _, _, _, _, _, _, _, _, _, _, _, _, _, _, _, _, _, _, _, _, _, _, _, _, _, _] _
  refine ops_val (ex_fieldAddr fl25_4 rfl) ?_
  refine ops_call (ex_call gf77 rfl) (HS.one (q := 4) (vtext_R gp gr gb cb sb b hcb hbl) (by decide) (show o + 4 + 1 ≤ _ by omega) (At.cast (hat.trans (At.sub _ 4 1)) rfl)) ?_
  rintro _ w5 ⟨us, i1, e1, HS⟩
  replace HS := HS.join1
  have H5 := HS.H.here
  refine ops_nil ?_
  change Run _ _ _ _ [_, _, _, _, _, _, _, _, _, _, _, _, _, _, _, _, _, _, _, _, _, _, _, _, _, _, _, _, _, _, _, _, _, _, _] _
  refine run_mixZ 8 [(true, 0), (true, 1), (true, 2), (true, 3), (true, 4), (true, 5), (true, 6), (false, 7), (false, 8)] H5 [0, 1, 2, 3] mixed (by decide) (by kernel_rfl) ?_
  rintro w6 hw6
  have H6 := Hp.drew H5; rw [← hw6] at H6
  refine mixz_p rfl ?_
  refine mix1_val (fun wz hz => ex_move rfl) ?_
  refine mixz_p rfl ?_
  refine mix1_val (fun wz hz => ex_move rfl) ?_
  refine mixz_p rfl ?_
  refine mix1_val (fun wz hz => ex_nilCheck rfl) ?_
  change MixZ _ _ _ _ _ _ [_, _, _, _, _, _, _, _, _, _, _, _, _, _, _, _, _, _, _, _, _, _, _, _, _, _, _, _, _, _, _, _, _, _, _] _
  refine mixz_p rfl ?_
  refine mix1_val (fun wz hz => ex_fieldAddr fl25_5 rfl) ?_
  refine mixz_p rfl ?_
  refine mix1_val (fun wz hz => ex_move rfl) ?_
  refine mixz_p rfl ?_
  refine mix1_val (fun wz hz => ex_nilCheck rfl) ?_
  change MixZ _ _ _ _ _ _ [_, _, _, _, _, _, _, _, _, _, _, _, _, _, _, _, _, _, _, _, _, _, _, _, _, _, _, _, _, _, _, _, _, _, _] _
  refine mixz_p rfl ?_
  refine mix1_val (fun wz hz => ex_fieldAddr fl25_6 rfl) ?_
  refine mixz_o rfl ?_
  refine ops_buildSlice Try.underlying177 ty126 H6 rfl (by decide) rfl ?_
  intro w7 g7 H7 hg7
  refine ops_nil ?_
  refine ⟨fun hne => H7.pick [0, 1, 2, 3] (by decide), ?_⟩
  change MixZ _ _ _ _ _ _ [_, _, _, _, _, _, _, _, _, _, _, _, _, _, _, _, _, _, _, _, _, _, _, _, _, _, _, _, _, _, _, _, _, _, _] _
  refine mixz_o rfl ?_
  refine ops_call (ex_call gf76 rfl) (HS.grp (q := 5) (vnums_R gp gr gb cb sb b hcb hbl) (by decide) H7 (by decide) (show o + 5 + 2 ≤ _ by omega) (At.cast (hat.trans (At.sub _ 5 2)) rfl) rfl rfl) ?_
  rintro _ w8 ⟨us, i1, e1, HS⟩
  replace HS := HS.join1
  have H8 := HS.H.here
  refine ops_nil ?_
  refine ⟨fun hne => absurd rfl hne, ?_⟩
  change MixZ _ _ _ _ _ _ [_, _, _, _, _, _, _, _, _, _, _, _, _, _, _, _, _, _, _, _, _, _, _, _, _, _, _, _, _, _, _, _, _, _, _] _
  refine mixz_nil ?_
  change Run _ _ _ _ [_, _, _, _, _, _, _, _, _, _, _, _, _, _, _, _, _, _, _, _, _, _, _, _, _, _, _, _, _, _, _, _, _, _, _] _
  refine run_nil ?_
  refine fin_end0 rfl ?_
  exact HS.out
theorem vplan_R : WalkR Try.prog 80 thplan := vplan_r
set_option maxRecDepth 100000 in
set_option maxHeartbeats 4000000 in
theorem vplace_w (gp go o : Nat) (g : Option Nat) (cap : Nat) (sp : List Value) (st : WS) (U : TypeId) (cs : List Value) (x : thplace.X) (vs : List Value) (w0 : World) (m : Nat) (a : WS) (H0 : Hp w0 w0 (bl (vwo gp g cap sp st go U cs)) (vwo gp g cap sp st go U cs)) (hm : m + thplace.mx ≤ 1000000000) (hP : POk m g cap sp st) (ha : Alike a st) (hM : thplace.M w0 (fun b => b ∉ bl (vwo gp g cap sp st go U cs)) x vs) (hat : At cs o vs) :
    Does Try.prog 134 #[.pointer (some ⟨gp, 0, none⟩), .pointer (some ⟨go, o, none⟩)] w0 (fun _ w' => VwOut (m + thplace.mx) gp (wAll (thplace.fl x) a) go U cs w0 (bl (vwo gp g cap sp st go U cs)) w') := by
  refine does_of Try.func134 Try.ntmps134 rfl ?_
  change Run _ _ _ _ [.pointer (some ⟨gp, 0, none⟩), .pointer (some ⟨go, o, none⟩), undef, undef, undef, undef, undef, undef, undef, undef, undef, undef, undef, undef, undef, undef, undef, undef, undef] _
  change m + 196635 ≤ 1000000000 at hm
  have HS : VSt gp go o w0 (bl (vwo gp g cap sp st go U cs)) w0 (m + 0) a st thplace x vs U cs g cap sp := ⟨H0, hP, ha, hM, hat⟩
  have H := HS.H.here
  refine run_seq ?_
  refine run_region ?_
  refine ops_val (ex_move rfl) ?_
  refine ops_val (ex_move rfl) ?_
  refine ops_val (ex_nilCheck rfl) ?_
  change Ops _ _ _ _ _ _ [_, _, _, _, _, _, _, _, _, _, _, _, _, _, _, _, _, _, _] _
  refine ops_val (ex_fieldAddr fl119_0 rfl) ?_
  refine ops_call (ex_call gf97 rfl) (HS.one (p := 0) vnum_W (show m + 0 + 65545 ≤ _ by omega) (fun _ _ hM => (Th.part hM 0 1)) (At.cast (At.trans (At.self _) (At.sub _ 0 1)) (by decide))) ?_
  rintro _ w1 ⟨st, g, cap, sp, HS0⟩
  have HS := VSt.re HS0 (m2 := m + 65545) (by show m + 0 + 65545 = m + 65545; omega)
  have H1 := HS.H.here
  refine ops_nil ?_
  change Run _ _ _ _ [_, _, _, _, _, _, _, _, _, _, _, _, _, _, _, _, _, _, _] _
  refine run_seq ?_
  refine run_region ?_
  refine ops_val (ex_move rfl) ?_
  refine ops_val (ex_move rfl) ?_
  refine ops_val (ex_nilCheck rfl) ?_
  change Ops _ _ _ _ _ _ [_, _, _, _, _, _, _, _, _, _, _, _, _, _, _, _, _, _, _] _
  refine ops_val (ex_fieldAddr fl119_1 rfl) ?_
  refine ops_call (ex_call gf77 rfl) (HS.one (p := 1) vtext_W (show m + 65545 + 65545 ≤ _ by omega) (fun _ _ hM => (Th.part hM 1 1)) (At.cast (At.trans (At.self _) (At.sub _ 1 1)) (by decide))) ?_
  rintro _ w2 ⟨st, g, cap, sp, HS0⟩
  have HS := VSt.re HS0 (m2 := m + 131090) (by show m + 65545 + 65545 = m + 131090; omega)
  have H2 := HS.H.here
  refine ops_nil ?_
  change Run _ _ _ _ [_, _, _, _, _, _, _, _, _, _, _, _, _, _, _, _, _, _, _] _
  refine run_region ?_
  refine ops_val (ex_move rfl) ?_
  refine ops_val (ex_move rfl) ?_
  refine ops_val (ex_nilCheck rfl) ?_
  change Ops _ _ _ _ _ _ [_, _, _, _, _, _, _, _, _, _, _, _, _, _, _, _, _, _, _] _
  refine ops_val (ex_fieldAddr fl119_2 rfl) ?_
  refine ops_call (ex_call gf97 rfl) (HS.one (p := 2) vnum_W (show m + 131090 + 65545 ≤ _ by omega) (fun _ _ hM => (Th.part hM 2 1)) (At.cast (At.trans (At.self _) (At.sub _ 2 1)) (by decide))) ?_
  rintro _ w3 ⟨st, g, cap, sp, HS0⟩
  have HS := VSt.re HS0 (m2 := m + 196635) (by show m + 131090 + 65545 = m + 196635; omega)
  have H3 := HS.H.here
  refine ops_nil ?_
  change Run _ _ _ _ [_, _, _, _, _, _, _, _, _, _, _, _, _, _, _, _, _, _, _] _
  refine run_nil ?_
  refine fin_end0 rfl ?_
  have hw0 : List.take 3 x = x := Th.whole hM
  refine HS.out2 ?_ rfl
  show _ = wAll (x) a
  simp only [List.drop_zero, wAll_part, wAll_append, Nat.reduceAdd, hw0]
theorem vplace_W : WalkW Try.prog 134 thplace := vplace_w
set_option maxRecDepth 100000 in
set_option maxHeartbeats 4000000 in
theorem vplace_r (gp gr : Nat) (gb : Option Nat) (cb : Nat) (sb : List Value) (b : List UInt8) (hcb : b.length ≤ cb) (hbl : b.length ≤ 65536) (go o i e : Nat) (U : TypeId) (cs : List Value) (w0 : World) (H0 : Hp w0 w0 (bl (vr gp gr gb cb sb b i e ++ [(some go, U, cs)])) (vr gp gr gb cb sb b i e ++ [(some go, U, cs)])) (hi : i ≤ b.length) (hat : At cs o thplace.zs) (hfit : o + thplace.sz ≤ cs.length) :
    Does Try.prog 134 #[.pointer (some ⟨gp, 0, none⟩), .pointer (some ⟨go, o, none⟩)] w0 (fun _ w' => RdOut (vr gp gr gb cb sb b) thplace go o U cs b i e w0.heap.size w0 (bl (vr gp gr gb cb sb b i e ++ [(some go, U, cs)])) w') := by
  refine does_of Try.func134 Try.ntmps134 rfl ?_
  change Run _ _ _ _ [.pointer (some ⟨gp, 0, none⟩), .pointer (some ⟨go, o, none⟩), undef, undef, undef, undef, undef, undef, undef, undef, undef, undef, undef, undef, undef, undef, undef, undef, undef] _
  change o + 3 ≤ cs.length at hfit
  have HS := RSt.start (R := vr gp gr gb cb sb b) (o := o) H0 hi
  have H := HS.H.here
  refine run_seq ?_
  refine run_region ?_
  refine ops_val (ex_move rfl) ?_
  refine ops_val (ex_move rfl) ?_
  refine ops_val (ex_nilCheck rfl) ?_
  change Ops _ _ _ _ _ _ [_, _, _, _, _, _, _, _, _, _, _, _, _, _, _, _, _, _, _] _
  refine ops_val (ex_fieldAddr fl119_0 rfl) ?_
  refine ops_call (ex_call gf97 rfl) (HS.one (q := 0) (vnum_R gp gr gb cb sb b hcb hbl) (by decide) (show o + 0 + 1 ≤ _ by omega) (At.cast (hat.trans (At.sub _ 0 1)) rfl)) ?_
  rintro _ w1 ⟨us, i1, e1, HS⟩
  replace HS := HS.join1
  have H1 := HS.H.here
  refine ops_nil ?_
  change Run _ _ _ _ [_, _, _, _, _, _, _, _, _, _, _, _, _, _, _, _, _, _, _] _
  refine run_seq ?_
  refine run_region ?_
  refine ops_val (ex_move rfl) ?_
  refine ops_val (ex_move rfl) ?_
  refine ops_val (ex_nilCheck rfl) ?_
  change Ops _ _ _ _ _ _ [_, _, _, _, _, _, _, _, _, _, _, _, _, _, _, _, _, _, _] _
  refine ops_val (ex_fieldAddr fl119_1 rfl) ?_
  refine ops_call (ex_call gf77 rfl) (HS.one (q := 1) (vtext_R gp gr gb cb sb b hcb hbl) (by decide) (show o + 1 + 1 ≤ _ by omega) (At.cast (hat.trans (At.sub _ 1 1)) rfl)) ?_
  rintro _ w2 ⟨us, i1, e1, HS⟩
  replace HS := HS.join1
  have H2 := HS.H.here
  refine ops_nil ?_
  change Run _ _ _ _ [_, _, _, _, _, _, _, _, _, _, _, _, _, _, _, _, _, _, _] _
  refine run_region ?_
  refine ops_val (ex_move rfl) ?_
  refine ops_val (ex_move rfl) ?_
  refine ops_val (ex_nilCheck rfl) ?_
  change Ops _ _ _ _ _ _ [_, _, _, _, _, _, _, _, _, _, _, _, _, _, _, _, _, _, _] _
  refine ops_val (ex_fieldAddr fl119_2 rfl) ?_
  refine ops_call (ex_call gf97 rfl) (HS.one (q := 2) (vnum_R gp gr gb cb sb b hcb hbl) (by decide) (show o + 2 + 1 ≤ _ by omega) (At.cast (hat.trans (At.sub _ 2 1)) rfl)) ?_
  rintro _ w3 ⟨us, i1, e1, HS⟩
  replace HS := HS.join1
  have H3 := HS.H.here
  refine ops_nil ?_
  change Run _ _ _ _ [_, _, _, _, _, _, _, _, _, _, _, _, _, _, _, _, _, _, _] _
  refine run_nil ?_
  refine fin_end0 rfl ?_
  exact HS.out
theorem vplace_R : WalkR Try.prog 134 thplace := vplace_r
set_option maxRecDepth 100000 in
set_option maxHeartbeats 4000000 in
theorem vnote_w (gp go o : Nat) (g : Option Nat) (cap : Nat) (sp : List Value) (st : WS) (U : TypeId) (cs : List Value) (x : thnote.X) (vs : List Value) (w0 : World) (m : Nat) (a : WS) (H0 : Hp w0 w0 (bl (vwo gp g cap sp st go U cs)) (vwo gp g cap sp st go U cs)) (hm : m + thnote.mx ≤ 1000000000) (hP : POk m g cap sp st) (ha : Alike a st) (hM : thnote.M w0 (fun b => b ∉ bl (vwo gp g cap sp st go U cs)) x vs) (hat : At cs o vs) :
    Does Try.prog 50 #[.pointer (some ⟨gp, 0, none⟩), .pointer (some ⟨go, o, none⟩)] w0 (fun _ w' => VwOut (m + thnote.mx) gp (wAll (thnote.fl x) a) go U cs w0 (bl (vwo gp g cap sp st go U cs)) w') := by
  refine does_of Try.func50 Try.ntmps50 rfl ?_
  change Run _ _ _ _ [.pointer (some ⟨gp, 0, none⟩), .pointer (some ⟨go, o, none⟩), undef, undef, undef, undef, undef, undef, undef, undef, undef, undef, undef, undef, undef, undef, undef, undef, undef, undef, undef, undef, undef, undef, undef, undef, undef, undef, undef, undef, undef, undef, undef, undef, undef, undef, undef, undef, undef, undef, undef, undef] _
  change m + 1048720 ≤ 1000000000 at hm
  have HS : VSt gp go o w0 (bl (vwo gp g cap sp st go U cs)) w0 (m + 0) a st thnote x vs U cs g cap sp := ⟨H0, hP, ha, hM, hat⟩
  have H := HS.H.here
  refine run_seq ?_
  refine run_mixZ 8 [(true, 0), (true, 1), (true, 2), (true, 3), (true, 4), (true, 5), (true, 6), (false, 7), (false, 8)] H [0, 1, 2] mixed (by decide) (by kernel_rfl) ?_
  rintro w1 hw1
  have H1 := Hp.drew H; rw [← hw1] at H1
  refine mixz_p rfl ?_
  refine mix1_val (fun wz hz => ex_move rfl) ?_
  refine mixz_p rfl ?_
  refine mix1_val (fun wz hz => ex_move rfl) ?_
  refine mixz_p rfl ?_
  refine mix1_val (fun wz hz => ex_nilCheck rfl) ?_
  change MixZ _ _ _ _ _ _ [_, _, _, _, _, _, _, _, _, _, _, _, _, _, _, _, _, _, _, _, _, _, _, _, _, _, _, _, _, _, _, _, _, _, _, _, _, _, _, _, _, _] _
  refine mixz_p rfl ?_
  refine mix1_val (fun wz hz => ex_fieldAddr fl50_0 rfl) ?_
  refine mixz_p rfl ?_
  refine mix1_val (fun wz hz => ex_move rfl) ?_
  refine mixz_p rfl ?_
  refine mix1_val (fun wz hz => ex_nilCheck rfl) ?_
  change MixZ _ _ _ _ _ _ [_, _, _, _, _, _, _, _, _, _, _, _, _, _, _, _, _, _, _, _, _, _, _, _, _, _, _, _, _, _, _, _, _, _, _, _, _, _, _, _, _, _] _
  refine mixz_p rfl ?_
  refine mix1_val (fun wz hz => ex_fieldAddr fl50_1 rfl) ?_
  refine mixz_o rfl ?_
  refine ops_buildSlice Try.underlying177 ty126 H1 rfl (by decide) rfl ?_
  intro w2 g2 H2 hg2
  refine ops_nil ?_
  refine ⟨fun hne => H2.pick [0, 1, 2] (by decide), ?_⟩
  change MixZ _ _ _ _ _ _ [_, _, _, _, _, _, _, _, _, _, _, _, _, _, _, _, _, _, _, _, _, _, _, _, _, _, _, _, _, _, _, _, _, _, _, _, _, _, _, _, _, _] _
  refine mixz_o rfl ?_
  refine ops_call (ex_call gf76 rfl) (HS.grp (p := 0) vnums_W H2 (by decide) (show m + 0 + 131090 ≤ _ by omega) (fun _ _ hM => (Th.part hM 0 2)) (At.cast (At.trans (At.self _) (At.sub _ 0 2)) (by decide))) ?_
  rintro _ w3 ⟨st, g, cap, sp, HS0⟩
  have HS := VSt.re HS0 (m2 := m + 131090) (by show m + 0 + 131090 = m + 131090; omega)
  have H3 := HS.H.here
  refine ops_nil ?_
  refine ⟨fun hne => absurd rfl hne, ?_⟩
  change MixZ _ _ _ _ _ _ [_, _, _, _, _, _, _, _, _, _, _, _, _, _, _, _, _, _, _, _, _, _, _, _, _, _, _, _, _, _, _, _, _, _, _, _, _, _, _, _, _, _] _
  refine mixz_nil ?_
  change Run _ _ _ _ [_, _, _, _, _, _, _, _, _, _, _, _, _, _, _, _, _, _, _, _, _, _, _, _, _, _, _, _, _, _, _, _, _, _, _, _, _, _, _, _, _, _] _
  refine run_seq ?_
  refine run_region ?_
  refine ops_val (ex_move rfl) ?_
  refine ops_val (ex_move rfl) ?_
  refine ops_val (ex_nilCheck rfl) ?_
  change Ops _ _ _ _ _ _ [_, _, _, _, _, _, _, _, _, _, _, _, _, _, _, _, _, _, _, _, _, _, _, _, _, _, _, _, _, _, _, _, _, _, _, _, _, _, _, _, _, _] _
  refine ops_val (ex_fieldAddr fl50_2 rfl) ?_
  refine ops_call (ex_call gf89 rfl) (HS.one (p := 2) vballot_W (show m + 131090 + 131090 ≤ _ by omega) (fun _ _ hM => (Th.part hM 2 2)) (At.cast (At.trans (At.self _) (At.sub _ 2 2)) (by decide))) ?_
  rintro _ w4 ⟨st, g, cap, sp, HS0⟩
  have HS := VSt.re HS0 (m2 := m + 262180) (by show m + 131090 + 131090 = m + 262180; omega)
  have H4 := HS.H.here
  refine ops_nil ?_
  change Run _ _ _ _ [_, _, _, _, _, _, _, _, _, _, _, _, _, _, _, _, _, _, _, _, _, _, _, _, _, _, _, _, _, _, _, _, _, _, _, _, _, _, _, _, _, _] _
  refine run_seq ?_
  refine run_region ?_
  refine ops_val (ex_move rfl) ?_
  refine ops_val (ex_move rfl) ?_
  refine ops_val (ex_nilCheck rfl) ?_
  change Ops _ _ _ _ _ _ [_, _, _, _, _, _, _, _, _, _, _, _, _, _, _, _, _, _, _, _, _, _, _, _, _, _, _, _, _, _, _, _, _, _, _, _, _, _, _, _, _, _] _
  refine ops_val (ex_fieldAddr fl50_3 rfl) ?_
  refine ops_call (ex_call gf90 rfl) (HS.one (p := 4) vvote_W (show m + 262180 + 262180 ≤ _ by omega) (fun _ _ hM => (Th.part hM 4 4)) (At.cast (At.trans (At.self _) (At.sub _ 4 4)) (by decide))) ?_
  rintro _ w5 ⟨st, g, cap, sp, HS0⟩
  have HS := VSt.re HS0 (m2 := m + 524360) (by show m + 262180 + 262180 = m + 524360; omega)
  have H5 := HS.H.here
  refine ops_nil ?_
  change Run _ _ _ _ [_, _, _, _, _, _, _, _, _, _, _, _, _, _, _, _, _, _, _, _, _, _, _, _, _, _, _, _, _, _, _, _, _, _, _, _, _, _, _, _, _, _] _
  refine run_seq ?_
  refine run_region ?_
  refine ops_val (ex_move rfl) ?_
  refine ops_val (ex_move rfl) ?_
  refine ops_val (ex_nilCheck rfl) ?_
  change Ops _ _ _ _ _ _ [_, _, _, _, _, _, _, _, _, _, _, _, _, _, _, _, _, _, _, _, _, _, _, _, _, _, _, _, _, _, _, _, _, _, _, _, _, _, _, _, _, _] _
  refine ops_val (ex_fieldAddr fl50_4 rfl) ?_
  refine ops_call (ex_call gf91 rfl) (HS.one (p := 8) ventry_W (show m + 524360 + 131090 ≤ _ by omega) (fun _ _ hM => (Th.part hM 8 2)) (At.cast (At.trans (At.self _) (At.sub _ 8 2)) (by decide))) ?_
  rintro _ w6 ⟨st, g, cap, sp, HS0⟩
  have HS := VSt.re HS0 (m2 := m + 655450) (by show m + 524360 + 131090 = m + 655450; omega)
  have H6 := HS.H.here
  refine ops_nil ?_
  change Run _ _ _ _ [_, _, _, _, _, _, _, _, _, _, _, _, _, _, _, _, _, _, _, _, _, _, _, _, _, _, _, _, _, _, _, _, _, _, _, _, _, _, _, _, _, _] _
  refine run_seq ?_
  refine run_region ?_
  refine ops_val (ex_move rfl) ?_
  refine ops_val (ex_move rfl) ?_
  refine ops_val (ex_nilCheck rfl) ?_
  change Ops _ _ _ _ _ _ [_, _, _, _, _, _, _, _, _, _, _, _, _, _, _, _, _, _, _, _, _, _, _, _, _, _, _, _, _, _, _, _, _, _, _, _, _, _, _, _, _, _] _
  refine ops_val (ex_fieldAddr fl50_5 rfl) ?_
  refine ops_call (ex_call gf92 rfl) (HS.one (p := 10) vright_W (show m + 655450 + 262180 ≤ _ by omega) (fun _ _ hM => (Th.part hM 10 4)) (At.cast (At.trans (At.self _) (At.sub _ 10 4)) (by decide))) ?_
  rintro _ w7 ⟨st, g, cap, sp, HS0⟩
  have HS := VSt.re HS0 (m2 := m + 917630) (by show m + 655450 + 262180 = m + 917630; omega)
  have H7 := HS.H.here
  refine ops_nil ?_
  change Run _ _ _ _ [_, _, _, _, _, _, _, _, _, _, _, _, _, _, _, _, _, _, _, _, _, _, _, _, _, _, _, _, _, _, _, _, _, _, _, _, _, _, _, _, _, _] _
  refine run_mixZ 8 [(true, 0), (true, 1), (true, 2), (true, 3), (true, 4), (true, 5), (true, 6), (false, 7), (false, 8)] H7 [0, 1, 2] mixed (by decide) (by kernel_rfl) ?_
  rintro w8 hw8
  have H8 := Hp.drew H7; rw [← hw8] at H8
  refine mixz_p rfl ?_
  refine mix1_val (fun wz hz => ex_move rfl) ?_
  refine mixz_p rfl ?_
  refine mix1_val (fun wz hz => ex_move rfl) ?_
  refine mixz_p rfl ?_
  refine mix1_val (fun wz hz => ex_nilCheck rfl) ?_
  change MixZ _ _ _ _ _ _ [_, _, _, _, _, _, _, _, _, _, _, _, _, _, _, _, _, _, _, _, _, _, _, _, _, _, _, _, _, _, _, _, _, _, _, _, _, _, _, _, _, _] _
  refine mixz_p rfl ?_
  refine mix1_val (fun wz hz => ex_fieldAddr fl50_6 rfl) ?_
  refine mixz_p rfl ?_
  refine mix1_val (fun wz hz => ex_move rfl) ?_
  refine mixz_p rfl ?_
  refine mix1_val (fun wz hz => ex_nilCheck rfl) ?_
  change MixZ _ _ _ _ _ _ [_, _, _, _, _, _, _, _, _, _, _, _, _, _, _, _, _, _, _, _, _, _, _, _, _, _, _, _, _, _, _, _, _, _, _, _, _, _, _, _, _, _] _
  refine mixz_p rfl ?_
  refine mix1_val (fun wz hz => ex_fieldAddr fl50_7 rfl) ?_
  refine mixz_o rfl ?_
  refine ops_buildSlice Try.underlying177 ty126 H8 rfl (by decide) rfl ?_
  intro w9 g9 H9 hg9
  refine ops_nil ?_
  refine ⟨fun hne => H9.pick [0, 1, 2] (by decide), ?_⟩
  change MixZ _ _ _ _ _ _ [_, _, _, _, _, _, _, _, _, _, _, _, _, _, _, _, _, _, _, _, _, _, _, _, _, _, _, _, _, _, _, _, _, _, _, _, _, _, _, _, _, _] _
  refine mixz_o rfl ?_
  refine ops_call (ex_call gf76 rfl) (HS.grp (p := 14) vnums_W H9 (by decide) (show m + 917630 + 131090 ≤ _ by omega) (fun _ _ hM => (Th.part hM 14 2)) (At.cast (At.trans (At.self _) (At.sub _ 14 2)) (by decide))) ?_
  rintro _ w10 ⟨st, g, cap, sp, HS0⟩
  have HS := VSt.re HS0 (m2 := m + 1048720) (by show m + 917630 + 131090 = m + 1048720; omega)
  have H10 := HS.H.here
  refine ops_nil ?_
  refine ⟨fun hne => absurd rfl hne, ?_⟩
  change MixZ _ _ _ _ _ _ [_, _, _, _, _, _, _, _, _, _, _, _, _, _, _, _, _, _, _, _, _, _, _, _, _, _, _, _, _, _, _, _, _, _, _, _, _, _, _, _, _, _] _
  refine mixz_nil ?_
  change Run _ _ _ _ [_, _, _, _, _, _, _, _, _, _, _, _, _, _, _, _, _, _, _, _, _, _, _, _, _, _, _, _, _, _, _, _, _, _, _, _, _, _, _, _, _, _] _
  refine run_nil ?_
  refine fin_end0 rfl ?_
  have hw0 : List.take 16 x = x := Th.whole hM
  refine HS.out2 ?_ rfl
  show _ = wAll (x) a
  simp only [List.drop_zero, wAll_part, wAll_append, Nat.reduceAdd, hw0]
theorem vnote_W : WalkW Try.prog 50 thnote := vnote_w
set_option maxRecDepth 100000 in
set_option maxHeartbeats 4000000 in
theorem vnote_r (gp gr : Nat) (gb : Option Nat) (cb : Nat) (sb : List Value) (b : List UInt8) (hcb : b.length ≤ cb) (hbl : b.length ≤ 65536) (go o i e : Nat) (U : TypeId) (cs : List Value) (w0 : World) (H0 : Hp w0 w0 (bl (vr gp gr gb cb sb b i e ++ [(some go, U, cs)])) (vr gp gr gb cb sb b i e ++ [(some go, U, cs)])) (hi : i ≤ b.length) (hat : At cs o thnote.zs) (hfit : o + thnote.sz ≤ cs.length) :
    Does Try.prog 50 #[.pointer (some ⟨gp, 0, none⟩), .pointer (some ⟨go, o, none⟩)] w0 (fun _ w' => RdOut (vr gp gr gb cb sb b) thnote go o U cs b i e w0.heap.size w0 (bl (vr gp gr gb cb sb b i e ++ [(some go, U, cs)])) w') := by
  refine does_of Try.func50 Try.ntmps50 rfl ?_
  change Run _ _ _ _ [.pointer (some ⟨gp, 0, none⟩), .pointer (some ⟨go, o, none⟩), undef, undef, undef, undef, undef, undef, undef, undef, undef, undef, undef, undef, undef, undef, undef, undef, undef, undef, undef, undef, undef, undef, undef, undef, undef, undef, undef, undef, undef, undef, undef, undef, undef, undef, undef, undef, undef, undef, undef, undef] _
  change o + 16 ≤ cs.length at hfit
  have HS := RSt.start (R := vr gp gr gb cb sb b) (o := o) H0 hi
  have H := HS.H.here
  refine run_seq ?_
  refine run_mixZ 8 [(true, 0), (true, 1), (true, 2), (true, 3), (true, 4), (true, 5), (true, 6), (false, 7), (false, 8)] H [0, 1, 2, 3] mixed (by decide) (by kernel_rfl) ?_
  rintro w1 hw1
  have H1 := Hp.drew H; rw [← hw1] at H1
  refine mixz_p rfl ?_
  refine mix1_val (fun wz hz => ex_move rfl) ?_
  refine mixz_p rfl ?_
  refine mix1_val (fun wz hz => ex_move rfl) ?_
  refine mixz_p rfl ?_
  refine mix1_val (fun wz hz => ex_nilCheck rfl) ?_
  change MixZ _ _ _ _ _ _ [_, _, _, _, _, _, _, _, _, _, _, _, _, _, _, _, _, _, _, _, _, _, _, _, _, _, _, _, _, _, _, _, _, _, _, _, _, _, _, _, _, _] _
  refine mixz_p rfl ?_
  refine mix1_val (fun wz hz => ex_fieldAddr fl50_0 rfl) ?_
  refine mixz_p rfl ?_
  refine mix1_val (fun wz hz => ex_move rfl) ?_
  refine mixz_p rfl ?_
  refine mix1_val (fun wz hz => ex_nilCheck rfl) ?_
  change MixZ _ _ _ _ _ _ [_, _, _, _, _, _, _, _, _, _, _, _, _, _, _, _, _, _, _, _, _, _, _, _, _, _, _, _, _, _, _, _, _, _, _, _, _, _, _, _, _, _] _
  refine mixz_p rfl ?_
  refine mix1_val (fun wz hz => ex_fieldAddr fl50_1 rfl) ?_
  refine mixz_o rfl ?_
  refine ops_buildSlice Try.underlying177 ty126 H1 rfl (by decide) rfl ?_
  intro w2 g2 H2 hg2
  refine ops_nil ?_
  refine ⟨fun hne => H2.pick [0, 1, 2, 3] (by decide), ?_⟩
  change MixZ _ _ _ _ _ _ [_, _, _, _, _, _, _, _, _, _, _, _, _, _, _, _, _, _, _, _, _, _, _, _, _, _, _, _, _, _, _, _, _, _, _, _, _, _, _, _, _, _] _
  refine mixz_o rfl ?_
  refine ops_call (ex_call gf76 rfl) (HS.grp (q := 0) (vnums_R gp gr gb cb sb b hcb hbl) (by decide) H2 (by decide) (show o + 0 + 2 ≤ _ by omega) (At.cast (hat.trans (At.sub _ 0 2)) rfl) rfl rfl) ?_
  rintro _ w3 ⟨us, i1, e1, HS⟩
  replace HS := HS.join1
  have H3 := HS.H.here
  refine ops_nil ?_
  refine ⟨fun hne => absurd rfl hne, ?_⟩
  change MixZ _ _ _ _ _ _ [_, _, _, _, _, _, _, _, _, _, _, _, _, _, _, _, _, _, _, _, _, _, _, _, _, _, _, _, _, _, _, _, _, _, _, _, _, _, _, _, _, _] _
  refine mixz_nil ?_
  change Run _ _ _ _ [_, _, _, _, _, _, _, _, _, _, _, _, _, _, _, _, _, _, _, _, _, _, _, _, _, _, _, _, _, _, _, _, _, _, _, _, _, _, _, _, _, _] _
  refine run_seq ?_
  refine run_region ?_
  refine ops_val (ex_move rfl) ?_
  refine ops_val (ex_move rfl) ?_
  refine ops_val (ex_nilCheck rfl) ?_
  change Ops _ _ _ _ _ _ [_, _, _, _, _, _, _, _, _, _, _, _, _, _, _, _, _, _, _, _, _, _, _, _, _, _, _, _, _, _, _, _, _, _, _, _, _, _, _, _, _, _] _
  refine ops_val (ex_fieldAddr fl50_2 rfl) ?_
  refine ops_call (ex_call gf89 rfl) (HS.one (q := 2) (vballot_R gp gr gb cb sb b hcb hbl) (by decide) (show o + 2 + 2 ≤ _ by omega) (At.cast (hat.trans (At.sub _ 2 2)) rfl)) ?_
  rintro _ w4 ⟨us, i1, e1, HS⟩
  replace HS := HS.join1
  have H4 := HS.H.here
  refine ops_nil ?_
  change Run _ _ _ _ [_, _, _, _, _, _, _, _, _, _, _, _, _, _, _, _, _, _, _, _, _, _, _, _, _, _, _, _, _, _, _, _, _, _, _, _, _, _, _, _, _, _] _
  refine run_seq ?_
  refine run_region ?_
  refine ops_val (ex_move rfl) ?_
  refine ops_val (ex_move rfl) ?_
  refine ops_val (ex_nilCheck rfl) ?_
  change Ops _ _ _ _ _ _ [_, _, _, _, _, _, _, _, _, _, _, _, _, _, _, _, _, _, _, _, _, _, _, _, _, _, _, _, _, _, _, _, _, _, _, _, _, _, _, _, _, _] _
  refine ops_val (ex_fieldAddr fl50_3 rfl) ?_
  refine ops_call (ex_call gf90 rfl) (HS.one (q := 4) (vvote_R gp gr gb cb sb b hcb hbl) (by decide) (show o + 4 + 4 ≤ _ by omega) (At.cast (hat.trans (At.sub _ 4 4)) rfl)) ?_
  rintro _ w5 ⟨us, i1, e1, HS⟩
  replace HS := HS.join1
  have H5 := HS.H.here
  refine ops_nil ?_
  change Run _ _ _ _ [_, _, _, _, _, _, _, _, _, _, _, _, _, _, _, _, _, _, _, _, _, _, _, _, _, _, _, _, _, _, _, _, _, _, _, _, _, _, _, _, _, _] _
  refine run_seq ?_
  refine run_region ?_
  refine ops_val (ex_move rfl) ?_
  refine ops_val (ex_move rfl) ?_
  refine ops_val (ex_nilCheck rfl) ?_
  change Ops _ _ _ _ _ _ [_, _, _, _, _, _, _, _, _, _, _, _, _, _, _, _, _, _, _, _, _, _, _, _, _, _, _, _, _, _, _, _, _, _, _, _, _, _, _, _, _, _] _
  refine ops_val (ex_fieldAddr fl50_4 rfl) ?_
  refine ops_call (ex_call gf91 rfl) (HS.one (q := 8) (ventry_R gp gr gb cb sb b hcb hbl) (by decide) (show o + 8 + 2 ≤ _ by omega) (At.cast (hat.trans (At.sub _ 8 2)) rfl)) ?_
  rintro _ w6 ⟨us, i1, e1, HS⟩
  replace HS := HS.join1
  have H6 := HS.H.here
  refine ops_nil ?_
  change Run _ _ _ _ [_, _, _, _, _, _, _, _, _, _, _, _, _, _, _, _, _, _, _, _, _, _, _, _, _, _, _, _, _, _, _, _, _, _, _, _, _, _, _, _, _, _] _
  refine run_seq ?_
  refine run_region ?_
  refine ops_val (ex_move rfl) ?_
  refine ops_val (ex_move rfl) ?_
  refine ops_val (ex_nilCheck rfl) ?_
  change Ops _ _ _ _ _ _ [_, _, _, _, _, _, _, _, _, _, _, _, _, _, _, _, _, _, _, _, _, _, _, _, _, _, _, _, _, _, _, _, _, _, _, _, _, _, _, _, _, _] _
  refine ops_val (ex_fieldAddr fl50_5 rfl) ?_
  refine ops_call (ex_call gf92 rfl) (HS.one (q := 10) (vright_R gp gr gb cb sb b hcb hbl) (by decide) (show o + 10 + 4 ≤ _ by omega) (At.cast (hat.trans (At.sub _ 10 4)) rfl)) ?_
  rintro _ w7 ⟨us, i1, e1, HS⟩
  replace HS := HS.join1
  have H7 := HS.H.here
  refine ops_nil ?_
  change Run _ _ _ _ [_, _, _, _, _, _, _, _, _, _, _, _, _, _, _, _, _, _, _, _, _, _, _, _, _, _, _, _, _, _, _, _, _, _, _, _, _, _, _, _, _, _] _
  refine run_mixZ 8 [(true, 0), (true, 1), (true, 2), (true, 3), (true, 4), (true, 5), (true, 6), (false, 7), (false, 8)] H7 [0, 1, 2, 3] mixed (by decide) (by kernel_rfl) ?_
  rintro w8 hw8
  have H8 := Hp.drew H7; rw [← hw8] at H8
  refine mixz_p rfl ?_
  refine mix1_val (fun wz hz => ex_move rfl) ?_
  refine mixz_p rfl ?_
  refine mix1_val (fun wz hz => ex_move rfl) ?_
  refine mixz_p rfl ?_
  refine mix1_val (fun wz hz => ex_nilCheck rfl) ?_
  change MixZ _ _ _ _ _ _ [_, _, _, _, _, _, _, _, _, _, _, _, _, _, _, _, _, _, _, _, _, _, _, _, _, _, _, _, _, _, _, _, _, _, _, _, _, _, _, _, _, _] _
  refine mixz_p rfl ?_
  refine mix1_val (fun wz hz => ex_fieldAddr fl50_6 rfl) ?_
  refine mixz_p rfl ?_
  refine mix1_val (fun wz hz => ex_move rfl) ?_
  refine mixz_p rfl ?_
  refine mix1_val (fun wz hz => ex_nilCheck rfl) ?_
  change MixZ _ _ _ _ _ _ [_, _, _, _, _, _, _, _, _, _, _, _, _, _, _, _, _, _, _, _, _, _, _, _, _, _, _, _, _, _, _, _, _, _, _, _, _, _, _, _, _, _] _
  refine mixz_p rfl ?_
  refine mix1_val (fun wz hz => ex_fieldAddr fl50_7 rfl) ?_
  refine mixz_o rfl ?_
  refine ops_buildSlice Try.underlying177 ty126 H8 rfl (by decide) rfl ?_
  intro w9 g9 H9 hg9
  refine ops_nil ?_
  refine ⟨fun hne => H9.pick [0, 1, 2, 3] (by decide), ?_⟩
  change MixZ _ _ _ _ _ _ [_, _, _, _, _, _, _, _, _, _, _, _, _, _, _, _, _, _, _, _, _, _, _, _, _, _, _, _, _, _, _, _, _, _, _, _, _, _, _, _, _, _] _
  refine mixz_o rfl ?_
  refine ops_call (ex_call gf76 rfl) (HS.grp (q := 14) (vnums_R gp gr gb cb sb b hcb hbl) (by decide) H9 (by decide) (show o + 14 + 2 ≤ _ by omega) (At.cast (hat.trans (At.sub _ 14 2)) rfl) rfl rfl) ?_
  rintro _ w10 ⟨us, i1, e1, HS⟩
  replace HS := HS.join1
  have H10 := HS.H.here
  refine ops_nil ?_
  refine ⟨fun hne => absurd rfl hne, ?_⟩
  change MixZ _ _ _ _ _ _ [_, _, _, _, _, _, _, _, _, _, _, _, _, _, _, _, _, _, _, _, _, _, _, _, _, _, _, _, _, _, _, _, _, _, _, _, _, _, _, _, _, _] _
  refine mixz_nil ?_
  change Run _ _ _ _ [_, _, _, _, _, _, _, _, _, _, _, _, _, _, _, _, _, _, _, _, _, _, _, _, _, _, _, _, _, _, _, _, _, _, _, _, _, _, _, _, _, _] _
  refine run_nil ?_
  refine fin_end0 rfl ?_
  exact HS.out
theorem vnote_R : WalkR Try.prog 50 thnote := vnote_r
set_option maxRecDepth 100000 in
set_option maxHeartbeats 4000000 in
theorem vcommand_w (gp go o : Nat) (g : Option Nat) (cap : Nat) (sp : List Value) (st : WS) (U : TypeId) (cs : List Value) (x : thcommand.X) (vs : List Value) (w0 : World) (m : Nat) (a : WS) (H0 : Hp w0 w0 (bl (vwo gp g cap sp st go U cs)) (vwo gp g cap sp st go U cs)) (hm : m + thcommand.mx ≤ 1000000000) (hP : POk m g cap sp st) (ha : Alike a st) (hM : thcommand.M w0 (fun b => b ∉ bl (vwo gp g cap sp st go U cs)) x vs) (hat : At cs o vs) :
    Does Try.prog 41 #[.pointer (some ⟨gp, 0, none⟩), .pointer (some ⟨go, o, none⟩)] w0 (fun _ w' => VwOut (m + thcommand.mx) gp (wAll (thcommand.fl x) a) go U cs w0 (bl (vwo gp g cap sp st go U cs)) w') := by
  refine does_of Try.func41 Try.ntmps41 rfl ?_
  change Run _ _ _ _ [.pointer (some ⟨gp, 0, none⟩), .pointer (some ⟨go, o, none⟩), undef, undef, undef, undef, undef, undef, undef, undef, undef, undef, undef, undef, undef, undef, undef, undef, undef, undef, undef, undef, undef, undef, undef, undef, undef, undef, undef, undef, undef, undef, undef, undef, undef, undef, undef, undef, undef, undef, undef, undef, undef, undef, undef, undef, undef, undef, undef, undef, undef, undef, undef, undef, undef, undef, undef, undef, undef, undef, undef, undef] _
  change m + 1638625 ≤ 1000000000 at hm
  have HS : VSt gp go o w0 (bl (vwo gp g cap sp st go U cs)) w0 (m + 0) a st thcommand x vs U cs g cap sp := ⟨H0, hP, ha, hM, hat⟩
  have H := HS.H.here
  refine run_seq ?_
  refine run_mixZ 20 [(true, 0), (true, 1), (true, 2), (true, 3), (true, 4), (true, 5), (true, 6), (true, 7), (true, 8), (true, 9), (true, 10), (true, 11), (true, 12), (true, 13), (true, 14), (true, 15), (true, 16), (true, 17), (true, 18), (false, 19), (false, 20)] H [0, 1, 2] mixed (by decide) (by kernel_rfl) ?_
  rintro w1 hw1
  have H1 := Hp.drew H; rw [← hw1] at H1
  refine mixz_p rfl ?_
  refine mix1_val (fun wz hz => ex_move rfl) ?_
  refine mixz_p rfl ?_
  refine mix1_val (fun wz hz => ex_move rfl) ?_
  refine mixz_p rfl ?_
  refine mix1_val (fun wz hz => ex_nilCheck rfl) ?_
  change MixZ _ _ _ _ _ _ [_, _, _, _, _, _, _, _, _, _, _, _, _, _, _, _, _, _, _, _, _, _, _, _, _, _, _, _, _, _, _, _, _, _, _, _, _, _, _, _, _, _, _, _, _, _, _, _, _, _, _, _, _, _, _, _, _, _, _, _, _, _] _
  refine mixz_p rfl ?_
  refine mix1_val (fun wz hz => ex_fieldAddr fl28_0 rfl) ?_
  refine mixz_p rfl ?_
  refine mix1_val (fun wz hz => ex_move rfl) ?_
  refine mixz_p rfl ?_
  refine mix1_val (fun wz hz => ex_nilCheck rfl) ?_
  change MixZ _ _ _ _ _ _ [_, _, _, _, _, _, _, _, _, _, _, _, _, _, _, _, _, _, _, _, _, _, _, _, _, _, _, _, _, _, _, _, _, _, _, _, _, _, _, _, _, _, _, _, _, _, _, _, _, _, _, _, _, _, _, _, _, _, _, _, _, _] _
  refine mixz_p rfl ?_
  refine mix1_val (fun wz hz => ex_fieldAddr fl28_1 rfl) ?_
  refine mixz_p rfl ?_
  refine mix1_val (fun wz hz => ex_move rfl) ?_
  refine mixz_p rfl ?_
  refine mix1_val (fun wz hz => ex_nilCheck rfl) ?_
  change MixZ _ _ _ _ _ _ [_, _, _, _, _, _, _, _, _, _, _, _, _, _, _, _, _, _, _, _, _, _, _, _, _, _, _, _, _, _, _, _, _, _, _, _, _, _, _, _, _, _, _, _, _, _, _, _, _, _, _, _, _, _, _, _, _, _, _, _, _, _] _
  refine mixz_p rfl ?_
  refine mix1_val (fun wz hz => ex_fieldAddr fl28_2 rfl) ?_
  refine mixz_p rfl ?_
  refine mix1_val (fun wz hz => ex_move rfl) ?_
  refine mixz_p rfl ?_
  refine mix1_val (fun wz hz => ex_nilCheck rfl) ?_
  change MixZ _ _ _ _ _ _ [_, _, _, _, _, _, _, _, _, _, _, _, _, _, _, _, _, _, _, _, _, _, _, _, _, _, _, _, _, _, _, _, _, _, _, _, _, _, _, _, _, _, _, _, _, _, _, _, _, _, _, _, _, _, _, _, _, _, _, _, _, _] _
  refine mixz_p rfl ?_
  refine mix1_val (fun wz hz => ex_fieldAddr fl28_3 rfl) ?_
  refine mixz_p rfl ?_
  refine mix1_val (fun wz hz => ex_move rfl) ?_
  refine mixz_p rfl ?_
  refine mix1_val (fun wz hz => ex_nilCheck rfl) ?_
  change MixZ _ _ _ _ _ _ [_, _, _, _, _, _, _, _, _, _, _, _, _, _, _, _, _, _, _, _, _, _, _, _, _, _, _, _, _, _, _, _, _, _, _, _, _, _, _, _, _, _, _, _, _, _, _, _, _, _, _, _, _, _, _, _, _, _, _, _, _, _] _
  refine mixz_p rfl ?_
  refine mix1_val (fun wz hz => ex_fieldAddr fl28_4 rfl) ?_
  refine mixz_p rfl ?_
  refine mix1_val (fun wz hz => ex_move rfl) ?_
  refine mixz_p rfl ?_
  refine mix1_val (fun wz hz => ex_nilCheck rfl) ?_
  change MixZ _ _ _ _ _ _ [_, _, _, _, _, _, _, _, _, _, _, _, _, _, _, _, _, _, _, _, _, _, _, _, _, _, _, _, _, _, _, _, _, _, _, _, _, _, _, _, _, _, _, _, _, _, _, _, _, _, _, _, _, _, _, _, _, _, _, _, _, _] _
  refine mixz_p rfl ?_
  refine mix1_val (fun wz hz => ex_fieldAddr fl28_5 rfl) ?_
  refine mixz_o rfl ?_
  refine ops_buildSlice Try.underlying177 ty126 H1 rfl (by decide) rfl ?_
  intro w2 g2 H2 hg2
  refine ops_nil ?_
  refine ⟨fun hne => H2.pick [0, 1, 2] (by decide), ?_⟩
  change MixZ _ _ _ _ _ _ [_, _, _, _, _, _, _, _, _, _, _, _, _, _, _, _, _, _, _, _, _, _, _, _, _, _, _, _, _, _, _, _, _, _, _, _, _, _, _, _, _, _, _, _, _, _, _, _, _, _, _, _, _, _, _, _, _, _, _, _, _, _] _
  refine mixz_o rfl ?_
  refine ops_call (ex_call gf76 rfl) (HS.grp (p := 0) vnums_W H2 (by decide) (show m + 0 + 393270 ≤ _ by omega) (fun _ _ hM => (Th.part hM 0 6)) (At.cast (At.trans (At.self _) (At.sub _ 0 6)) (by decide))) ?_
  rintro _ w3 ⟨st, g, cap, sp, HS0⟩
  have HS := VSt.re HS0 (m2 := m + 393270) (by show m + 0 + 393270 = m + 393270; omega)
  have H3 := HS.H.here
  refine ops_nil ?_
  refine ⟨fun hne => absurd rfl hne, ?_⟩
  change MixZ _ _ _ _ _ _ [_, _, _, _, _, _, _, _, _, _, _, _, _, _, _, _, _, _, _, _, _, _, _, _, _, _, _, _, _, _, _, _, _, _, _, _, _, _, _, _, _, _, _, _, _, _, _, _, _, _, _, _, _, _, _, _, _, _, _, _, _, _] _
  refine mixz_nil ?_
  change Run _ _ _ _ [_, _, _, _, _, _, _, _, _, _, _, _, _, _, _, _, _, _, _, _, _, _, _, _, _, _, _, _, _, _, _, _, _, _, _, _, _, _, _, _, _, _, _, _, _, _, _, _, _, _, _, _, _, _, _, _, _, _, _, _, _, _] _
  refine run_seq ?_
  refine run_region ?_
  refine ops_val (ex_move rfl) ?_
  refine ops_val (ex_move rfl) ?_
  refine ops_val (ex_nilCheck rfl) ?_
  change Ops _ _ _ _ _ _ [_, _, _, _, _, _, _, _, _, _, _, _, _, _, _, _, _, _, _, _, _, _, _, _, _, _, _, _, _, _, _, _, _, _, _, _, _, _, _, _, _, _, _, _, _, _, _, _, _, _, _, _, _, _, _, _, _, _, _, _, _, _] _
  refine ops_val (ex_fieldAddr fl28_6 rfl) ?_
  refine ops_call (ex_call gf77 rfl) (HS.one (p := 6) vtext_W (show m + 393270 + 65545 ≤ _ by omega) (fun _ _ hM => (Th.part hM 6 1)) (At.cast (At.trans (At.self _) (At.sub _ 6 1)) (by decide))) ?_
  rintro _ w4 ⟨st, g, cap, sp, HS0⟩
  have HS := VSt.re HS0 (m2 := m + 458815) (by show m + 393270 + 65545 = m + 458815; omega)
  have H4 := HS.H.here
  refine ops_nil ?_
  change Run _ _ _ _ [_, _, _, _, _, _, _, _, _, _, _, _, _, _, _, _, _, _, _, _, _, _, _, _, _, _, _, _, _, _, _, _, _, _, _, _, _, _, _, _, _, _, _, _, _, _, _, _, _, _, _, _, _, _, _, _, _, _, _, _, _, _] _
  refine run_seq ?_
  refine run_mixZ 11 [(true, 0), (true, 1), (true, 2), (true, 3), (true, 4), (true, 5), (true, 6), (true, 7), (true, 8), (true, 9), (false, 10), (false, 11)] H4 [0, 1, 2] mixed (by decide) (by kernel_rfl) ?_
  rintro w5 hw5
  have H5 := Hp.drew H4; rw [← hw5] at H5
  refine mixz_p rfl ?_
  refine mix1_val (fun wz hz => ex_move rfl) ?_
  refine mixz_p rfl ?_
  refine mix1_val (fun wz hz => ex_move rfl) ?_
  refine mixz_p rfl ?_
  refine mix1_val (fun wz hz => ex_nilCheck rfl) ?_
  change MixZ _ _ _ _ _ _ [_, _, _, _, _, _, _, _, _, _, _, _, _, _, _, _, _, _, _, _, _, _, _, _, _, _, _, _, _, _, _, _, _, _, _, _, _, _, _, _, _, _, _, _, _, _, _, _, _, _, _, _, _, _, _, _, _, _, _, _, _, _] _
  refine mixz_p rfl ?_
  refine mix1_val (fun wz hz => ex_fieldAddr fl28_7 rfl) ?_
  refine mixz_p rfl ?_
  refine mix1_val (fun wz hz => ex_move rfl) ?_
  refine mixz_p rfl ?_
  refine mix1_val (fun wz hz => ex_nilCheck rfl) ?_
  change MixZ _ _ _ _ _ _ [_, _, _, _, _, _, _, _, _, _, _, _, _, _, _, _, _, _, _, _, _, _, _, _, _, _, _, _, _, _, _, _, _, _, _, _, _, _, _, _, _, _, _, _, _, _, _, _, _, _, _, _, _, _, _, _, _, _, _, _, _, _] _
  refine mixz_p rfl ?_
  refine mix1_val (fun wz hz => ex_fieldAddr fl28_8 rfl) ?_
  refine mixz_p rfl ?_
  refine mix1_val (fun wz hz => ex_move rfl) ?_
  refine mixz_p rfl ?_
  refine mix1_val (fun wz hz => ex_nilCheck rfl) ?_
  change MixZ _ _ _ _ _ _ [_, _, _, _, _, _, _, _, _, _, _, _, _, _, _, _, _, _, _, _, _, _, _, _, _, _, _, _, _, _, _, _, _, _, _, _, _, _, _, _, _, _, _, _, _, _, _, _, _, _, _, _, _, _, _, _, _, _, _, _, _, _] _
  refine mixz_p rfl ?_
  refine mix1_val (fun wz hz => ex_fieldAddr fl28_9 rfl) ?_
  refine mixz_o rfl ?_
  refine ops_buildSlice Try.underlying177 ty126 H5 rfl (by decide) rfl ?_
  intro w6 g6 H6 hg6
  refine ops_nil ?_
  refine ⟨fun hne => H6.pick [0, 1, 2] (by decide), ?_⟩
  change MixZ _ _ _ _ _ _ [_, _, _, _, _, _, _, _, _, _, _, _, _, _, _, _, _, _, _, _, _, _, _, _, _, _, _, _, _, _, _, _, _, _, _, _, _, _, _, _, _, _, _, _, _, _, _, _, _, _, _, _, _, _, _, _, _, _, _, _, _, _] _
  refine mixz_o rfl ?_
  refine ops_call (ex_call gf76 rfl) (HS.grp (p := 7) vnums_W H6 (by decide) (show m + 458815 + 196635 ≤ _ by omega) (fun _ _ hM => (Th.part hM 7 3)) (At.cast (At.trans (At.self _) (At.sub _ 7 3)) (by decide))) ?_
  rintro _ w7 ⟨st, g, cap, sp, HS0⟩
  have HS := VSt.re HS0 (m2 := m + 655450) (by show m + 458815 + 196635 = m + 655450; omega)
  have H7 := HS.H.here
  refine ops_nil ?_
  refine ⟨fun hne => absurd rfl hne, ?_⟩
  change MixZ _ _ _ _ _ _ [_, _, _, _, _, _, _, _, _, _, _, _, _, _, _, _, _, _, _, _, _, _, _, _, _, _, _, _, _, _, _, _, _, _, _, _, _, _, _, _, _, _, _, _, _, _, _, _, _, _, _, _, _, _, _, _, _, _, _, _, _, _] _
  refine mixz_nil ?_
  change Run _ _ _ _ [_, _, _, _, _, _, _, _, _, _, _, _, _, _, _, _, _, _, _, _, _, _, _, _, _, _, _, _, _, _, _, _, _, _, _, _, _, _, _, _, _, _, _, _, _, _, _, _, _, _, _, _, _, _, _, _, _, _, _, _, _, _] _
  refine run_seq ?_
  refine run_region ?_
  refine ops_val (ex_move rfl) ?_
  refine ops_val (ex_move rfl) ?_
  refine ops_val (ex_nilCheck rfl) ?_
  change Ops _ _ _ _ _ _ [_, _, _, _, _, _, _, _, _, _, _, _, _, _, _, _, _, _, _, _, _, _, _, _, _, _, _, _, _, _, _, _, _, _, _, _, _, _, _, _, _, _, _, _, _, _, _, _, _, _, _, _, _, _, _, _, _, _, _, _, _, _] _
  refine ops_val (ex_fieldAddr fl28_10 rfl) ?_
  refine ops_call (ex_call gf78 rfl) (HS.one (p := 10) vflag_W (show m + 655450 + 65545 ≤ _ by omega) (fun _ _ hM => (Th.part hM 10 1)) (At.cast (At.trans (At.self _) (At.sub _ 10 1)) (by decide))) ?_
  rintro _ w8 ⟨st, g, cap, sp, HS0⟩
  have HS := VSt.re HS0 (m2 := m + 720995) (by show m + 655450 + 65545 = m + 720995; omega)
  have H8 := HS.H.here
  refine ops_nil ?_
  change Run _ _ _ _ [_, _, _, _, _, _, _, _, _, _, _, _, _, _, _, _, _, _, _, _, _, _, _, _, _, _, _, _, _, _, _, _, _, _, _, _, _, _, _, _, _, _, _, _, _, _, _, _, _, _, _, _, _, _, _, _, _, _, _, _, _, _] _
  refine run_seq ?_
  refine run_region ?_
  refine ops_val (ex_move rfl) ?_
  refine ops_val (ex_move rfl) ?_
  refine ops_val (ex_nilCheck rfl) ?_
  change Ops _ _ _ _ _ _ [_, _, _, _, _, _, _, _, _, _, _, _, _, _, _, _, _, _, _, _, _, _, _, _, _, _, _, _, _, _, _, _, _, _, _, _, _, _, _, _, _, _, _, _, _, _, _, _, _, _, _, _, _, _, _, _, _, _, _, _, _, _] _
  refine ops_val (ex_fieldAddr fl28_11 rfl) ?_
  refine ops_call (ex_call gf79 rfl) (HS.one (p := 11) vop_W (show m + 720995 + 393270 ≤ _ by omega) (fun _ _ hM => (Th.part hM 11 6)) (At.cast (At.trans (At.self _) (At.sub _ 11 6)) (by decide))) ?_
  rintro _ w9 ⟨st, g, cap, sp, HS0⟩
  have HS := VSt.re HS0 (m2 := m + 1114265) (by show m + 720995 + 393270 = m + 1114265; omega)
  have H9 := HS.H.here
  refine ops_nil ?_
  change Run _ _ _ _ [_, _, _, _, _, _, _, _, _, _, _, _, _, _, _, _, _, _, _, _, _, _, _, _, _, _, _, _, _, _, _, _, _, _, _, _, _, _, _, _, _, _, _, _, _, _, _, _, _, _, _, _, _, _, _, _, _, _, _, _, _, _] _
  refine run_seq ?_
  refine run_region ?_
  refine ops_val (ex_move rfl) ?_
  refine ops_val (ex_move rfl) ?_
  refine ops_val (ex_nilCheck rfl) ?_
  change Ops _ _ _ _ _ _ [_, _, _, _, _, _, _, _, _, _, _, _, _, _, _, _, _, _, _, _, _, _, _, _, _, _, _, _, _, _, _, _, _, _, _, _, _, _, _, _, _, _, _, _, _, _, _, _, _, _, _, _, _, _, _, _, _, _, _, _, _, _] _
  refine ops_val (ex_fieldAddr fl28_12 rfl) ?_
  refine ops_call (ex_call gf80 rfl) (HS.one (p := 17) vplan_W (show m + 1114265 + 458815 ≤ _ by omega) (fun _ _ hM => (Th.part hM 17 7)) (At.cast (At.trans (At.self _) (At.sub _ 17 7)) (by decide))) ?_
  rintro _ w10 ⟨st, g, cap, sp, HS0⟩
  have HS := VSt.re HS0 (m2 := m + 1573080) (by show m + 1114265 + 458815 = m + 1573080; omega)
  have H10 := HS.H.here
  refine ops_nil ?_
  change Run _ _ _ _ [_, _, _, _, _, _, _, _, _, _, _, _, _, _, _, _, _, _, _, _, _, _, _, _, _, _, _, _, _, _, _, _, _, _, _, _, _, _, _, _, _, _, _, _, _, _, _, _, _, _, _, _, _, _, _, _, _, _, _, _, _, _] _
  refine run_region ?_
  refine ops_val (ex_move rfl) ?_
  refine ops_val (ex_move rfl) ?_
  refine ops_val (ex_nilCheck rfl) ?_
  change Ops _ _ _ _ _ _ [_, _, _, _, _, _, _, _, _, _, _, _, _, _, _, _, _, _, _, _, _, _, _, _, _, _, _, _, _, _, _, _, _, _, _, _, _, _, _, _, _, _, _, _, _, _, _, _, _, _, _, _, _, _, _, _, _, _, _, _, _, _] _
  refine ops_val (ex_fieldAddr fl28_13 rfl) ?_
  refine ops_call (ex_call gf81 rfl) (HS.one (p := 24) vbytes_W (show m + 1573080 + 65545 ≤ _ by omega) (fun _ _ hM => (Th.part hM 24 1)) (At.cast (At.trans (At.self _) (At.sub _ 24 1)) (by decide))) ?_
  rintro _ w11 ⟨st, g, cap, sp, HS0⟩
  have HS := VSt.re HS0 (m2 := m + 1638625) (by show m + 1573080 + 65545 = m + 1638625; omega)
  have H11 := HS.H.here
  refine ops_nil ?_
  change Run _ _ _ _ [_, _, _, _, _, _, _, _, _, _, _, _, _, _, _, _, _, _, _, _, _, _, _, _, _, _, _, _, _, _, _, _, _, _, _, _, _, _, _, _, _, _, _, _, _, _, _, _, _, _, _, _, _, _, _, _, _, _, _, _, _, _] _
  refine run_nil ?_
  refine fin_end0 rfl ?_
  have hw0 : List.take 25 x = x := Th.whole hM
  refine HS.out2 ?_ rfl
  show _ = wAll (x) a
  simp only [List.drop_zero, wAll_part, wAll_append, Nat.reduceAdd, hw0]
theorem vcommand_W : WalkW Try.prog 41 thcommand := vcommand_w
set_option maxRecDepth 100000 in
set_option maxHeartbeats 4000000 in
theorem vcommand_r (gp gr : Nat) (gb : Option Nat) (cb : Nat) (sb : List Value) (b : List UInt8) (hcb : b.length ≤ cb) (hbl : b.length ≤ 65536) (go o i e : Nat) (U : TypeId) (cs : List Value) (w0 : World) (H0 : Hp w0 w0 (bl (vr gp gr gb cb sb b i e ++ [(some go, U, cs)])) (vr gp gr gb cb sb b i e ++ [(some go, U, cs)])) (hi : i ≤ b.length) (hat : At cs o thcommand.zs) (hfit : o + thcommand.sz ≤ cs.length) :
    Does Try.prog 41 #[.pointer (some ⟨gp, 0, none⟩), .pointer (some ⟨go, o, none⟩)] w0 (fun _ w' => RdOut (vr gp gr gb cb sb b) thcommand go o U cs b i e w0.heap.size w0 (bl (vr gp gr gb cb sb b i e ++ [(some go, U, cs)])) w') := by
  refine does_of Try.func41 Try.ntmps41 rfl ?_
  change Run _ _ _ _ [.pointer (some ⟨gp, 0, none⟩), .pointer (some ⟨go, o, none⟩), undef, undef, undef, undef, undef, undef, undef, undef, undef, undef, undef, undef, undef, undef, undef, undef, undef, undef, undef, undef, undef, undef, undef, undef, undef, undef, undef, undef, undef, undef, undef, undef, undef, undef, undef, undef, undef, undef, undef, undef, undef, undef, undef, undef, undef, undef, undef, undef, undef, undef, undef, undef, undef, undef, undef, undef, undef, undef, undef, undef] _
  change o + 25 ≤ cs.length at hfit
  have HS := RSt.start (R := vr gp gr gb cb sb b) (o := o) H0 hi
  have H := HS.H.here
  refine run_seq ?_
  refine run_mixZ 20 [(true, 0), (true, 1), (true, 2), (true, 3), (true, 4), (true, 5), (true, 6), (true, 7), (true, 8), (true, 9), (true, 10), (true, 11), (true, 12), (true, 13), (true, 14), (true, 15), (true, 16), (true, 17), (true, 18), (false, 19), (false, 20)] H [0, 1, 2, 3] mixed (by decide) (by kernel_rfl) ?_
  rintro w1 hw1
  have H1 := Hp.drew H; rw [← hw1] at H1
  refine mixz_p rfl ?_
  refine mix1_val (fun wz hz => ex_move rfl) ?_
  refine mixz_p rfl ?_
  refine mix1_val (fun wz hz => ex_move rfl) ?_
  refine mixz_p rfl ?_
  refine mix1_val (fun wz hz => ex_nilCheck rfl) ?_
  change MixZ _ _ _ _ _ _ [_, _, _, _, _, _, _, _, _, _, _, _, _, _, _, _, _, _, _, _, _, _, _, _, _, _, _, _, _, _, _, _, _, _, _, _, _, _, _, _, _, _, _, _, _, _, _, _, _, _, _, _, _, _, _, _, _, _, _, _, _, _] _
  refine mixz_p rfl ?_
  refine mix1_val (fun wz hz => ex_fieldAddr fl28_0 rfl) ?_
  refine mixz_p rfl ?_
  refine mix1_val (fun wz hz => ex_move rfl) ?_
  refine mixz_p rfl ?_
  refine mix1_val (fun wz hz => ex_nilCheck rfl) ?_
  change MixZ _ _ _ _ _ _ [_, _, _, _, _, _, _, _, _, _, _, _, _, _, _, _, _, _, _, _, _, _, _, _, _, _, _, _, _, _, _, _, _, _, _, _, _, _, _, _, _, _, _, _, _, _, _, _, _, _, _, _, _, _, _, _, _, _, _, _, _, _] _
  refine mixz_p rfl ?_
  refine mix1_val (fun wz hz => ex_fieldAddr fl28_1 rfl) ?_
  refine mixz_p rfl ?_
  refine mix1_val (fun wz hz => ex_move rfl) ?_
  refine mixz_p rfl ?_
  refine mix1_val (fun wz hz => ex_nilCheck rfl) ?_
  change MixZ _ _ _ _ _ _ [_, _, _, _, _, _, _, _, _, _, _, _, _, _, _, _, _, _, _, _, _, _, _, _, _, _, _, _, _, _, _, _, _, _, _, _, _, _, _, _, _, _, _, _, _, _, _, _, _, _, _, _, _, _, _, _, _, _, _, _, _, _] _
  refine mixz_p rfl ?_
  refine mix1_val (fun wz hz => ex_fieldAddr fl28_2 rfl) ?_
  refine mixz_p rfl ?_
  refine mix1_val (fun wz hz => ex_move rfl) ?_
  refine mixz_p rfl ?_
  refine mix1_val (fun wz hz => ex_nilCheck rfl) ?_
  change MixZ _ _ _ _ _ _ [_, _, _, _, _, _, _, _, _, _, _, _, _, _, _, _, _, _, _, _, _, _, _, _, _, _, _, _, _, _, _, _, _, _, _, _, _, _, _, _, _, _, _, _, _, _, _, _, _, _, _, _, _, _, _, _, _, _, _, _, _, _] _
  refine mixz_p rfl ?_
  refine mix1_val (fun wz hz => ex_fieldAddr fl28_3 rfl) ?_
  refine mixz_p rfl ?_
  refine mix1_val (fun wz hz => ex_move rfl) ?_
  refine mixz_p rfl ?_
  refine mix1_val (fun wz hz => ex_nilCheck rfl) ?_
  change MixZ _ _ _ _ _ _ [_, _, _, _, _, _, _, _, _, _, _, _, _, _, _, _, _, _, _, _, _, _, _, _, _, _, _, _, _, _, _, _, _, _, _, _, _, _, _, _, _, _, _, _, _, _, _, _, _, _, _, _, _, _, _, _, _, _, _, _, _, _] _
  refine mixz_p rfl ?_
  refine mix1_val (fun wz hz => ex_fieldAddr fl28_4 rfl) ?_
  refine mixz_p rfl ?_
  refine mix1_val (fun wz hz => ex_move rfl) ?_
  refine mixz_p rfl ?_
  refine mix1_val (fun wz hz => ex_nilCheck rfl) ?_
  change MixZ _ _ _ _ _ _ [_, _, _, _, _, _, _, _, _, _, _, _, _, _, _, _, _, _, _, _, _, _, _, _, _, _, _, _, _, _, _, _, _, _, _, _, _, _, _, _, _, _, _, _, _, _, _, _, _, _, _, _, _, _, _, _, _, _, _, _, _, _] _
  refine mixz_p rfl ?_
  refine mix1_val (fun wz hz => ex_fieldAddr fl28_5 rfl) ?_
  refine mixz_o rfl ?_
  refine ops_buildSlice Try.underlying177 ty126 H1 rfl (by decide) rfl ?_
  intro w2 g2 H2 hg2
  refine ops_nil ?_
  refine ⟨fun hne => H2.pick [0, 1, 2, 3] (by decide), ?_⟩
  change MixZ _ _ _ _ _ _ [_, _, _, _, _, _, _, _, _, _, _, _, _, _, _, _, _, _, _, _, _, _, _, _, _, _, _, _, _, _, _, _, _, _, _, _, _, _, _, _, _, _, _, _, _, _, _, _, _, _, _, _, _, _, _, _, _, _, _, _, _, _] _
  refine mixz_o rfl ?_
  refine ops_call (ex_call gf76 rfl) (HS.grp (q := 0) (vnums_R gp gr gb cb sb b hcb hbl) (by decide) H2 (by decide) (show o + 0 + 6 ≤ _ by omega) (At.cast (hat.trans (At.sub _ 0 6)) rfl) rfl rfl) ?_
  rintro _ w3 ⟨us, i1, e1, HS⟩
  replace HS := HS.join1
  have H3 := HS.H.here
  refine ops_nil ?_
  refine ⟨fun hne => absurd rfl hne, ?_⟩
  change MixZ _ _ _ _ _ _ [_, _, _, _, _, _, _, _, _, _, _, _, _, _, _, _, _, _, _, _, _, _, _, _, _, _, _, _, _, _, _, _, _, _, _, _, _, _, _, _, _, _, _, _, _, _, _, _, _, _, _, _, _, _, _, _, _, _, _, _, _, _] _
  refine mixz_nil ?_
  change Run _ _ _ _ [_, _, _, _, _, _, _, _, _, _, _, _, _, _, _, _, _, _, _, _, _, _, _, _, _, _, _, _, _, _, _, _, _, _, _, _, _, _, _, _, _, _, _, _, _, _, _, _, _, _, _, _, _, _, _, _, _, _, _, _, _, _] _
  refine run_seq ?_
  refine run_region ?_
  refine ops_val (ex_move rfl) ?_
  refine ops_val (ex_move rfl) ?_
  refine ops_val (ex_nilCheck rfl) ?_
  change Ops _ _ _ _ _ _ [_, _, _, _, _, _, _, _, _, _, _, _, _, _, _, _, _, _, _, _, _, _, _, _, _, _, _, _, _, _, _, _, _, _, _, _, _, _, _, _, _, _, _, _, _, _, _, _, _, _, _, _, _, _, _, _, _, _, _, _, _, _] _
  refine ops_val (ex_fieldAddr fl28_6 rfl) ?_
  refine ops_call (ex_call gf77 rfl) (HS.one (q := 6) (vtext_R gp gr gb cb sb b hcb hbl) (by decide) (show o + 6 + 1 ≤ _ by omega) (At.cast (hat.trans (At.sub _ 6 1)) rfl)) ?_
  rintro _ w4 ⟨us, i1, e1, HS⟩
  replace HS := HS.join1
  have H4 := HS.H.here
  refine ops_nil ?_
  change Run _ _ _ _ [_, _, _, _, _, _, _, _, _, _, _, _, _, _, _, _, _, _, _, _, _, _, _, _, _, _, _, _, _, _, _, _, _, _, _, _, _, _, _, _, _, _, _, _, _, _, _, _, _, _, _, _, _, _, _, _, _, _, _, _, _, _] _
  refine run_seq ?_
  refine run_mixZ 11 [(true, 0), (true, 1), (true, 2), (true, 3), (true, 4), (true, 5), (true, 6), (true, 7), (true, 8), (true, 9), (false, 10), (false, 11)] H4 [0, 1, 2, 3] mixed (by decide) (by kernel_rfl) ?_
  rintro w5 hw5
  have H5 := Hp.drew H4; rw [← hw5] at H5
  refine mixz_p rfl ?_
  refine mix1_val (fun wz hz => ex_move rfl) ?_
  refine mixz_p rfl ?_
  refine mix1_val (fun wz hz => ex_move rfl) ?_
  refine mixz_p rfl ?_
  refine mix1_val (fun wz hz => ex_nilCheck rfl) ?_
  change MixZ _ _ _ _ _ _ [_, _, _, _, _, _, _, _, _, _, _, _, _, _, _, _, _, _, _, _, _, _, _, _, _, _, _, _, _, _, _, _, _, _, _, _, _, _, _, _, _, _, _, _, _, _, _, _, _, _, _, _, _, _, _, _, _, _, _, _, _, _] _
  refine mixz_p rfl ?_
  refine mix1_val (fun wz hz => ex_fieldAddr fl28_7 rfl) ?_
  refine mixz_p rfl ?_
  refine mix1_val (fun wz hz => ex_move rfl) ?_
  refine mixz_p rfl ?_
  refine mix1_val (fun wz hz => ex_nilCheck rfl) ?_
  change MixZ _ _ _ _ _ _ [_, _, _, _, _, _, _, _, _, _, _, _, _, _, _, _, _, _, _, _, _, _, _, _, _, _, _, _, _, _, _, _, _, _, _, _, _, _, _, _, _, _, _, _, _, _, _, _, _, _, _, _, _, _, _, _, _, _, _, _, _, _] _
  refine mixz_p rfl ?_
  refine mix1_val (fun wz hz => ex_fieldAddr fl28_8 rfl) ?_
  refine mixz_p rfl ?_
  refine mix1_val (fun wz hz => ex_move rfl) ?_
  refine mixz_p rfl ?_
  refine mix1_val (fun wz hz => ex_nilCheck rfl) ?_
  change MixZ _ _ _ _ _ _ [_, _, _, _, _, _, _, _, _, _, _, _, _, _, _, _, _, _, _, _, _, _, _, _, _, _, _, _, _, _, _, _, _, _, _, _, _, _, _, _, _, _, _, _, _, _, _, _, _, _, _, _, _, _, _, _, _, _, _, _, _, _] _
  refine mixz_p rfl ?_
  refine mix1_val (fun wz hz => ex_fieldAddr fl28_9 rfl) ?_
  refine mixz_o rfl ?_
  refine ops_buildSlice Try.underlying177 ty126 H5 rfl (by decide) rfl ?_
  intro w6 g6 H6 hg6
  refine ops_nil ?_
  refine ⟨fun hne => H6.pick [0, 1, 2, 3] (by decide), ?_⟩
  change MixZ _ _ _ _ _ _ [_, _, _, _, _, _, _, _, _, _, _, _, _, _, _, _, _, _, _, _, _, _, _, _, _, _, _, _, _, _, _, _, _, _, _, _, _, _, _, _, _, _, _, _, _, _, _, _, _, _, _, _, _, _, _, _, _, _, _, _, _, _] _
  refine mixz_o rfl ?_
  refine ops_call (ex_call gf76 rfl) (HS.grp (q := 7) (vnums_R gp gr gb cb sb b hcb hbl) (by decide) H6 (by decide) (show o + 7 + 3 ≤ _ by omega) (At.cast (hat.trans (At.sub _ 7 3)) rfl) rfl rfl) ?_
  rintro _ w7 ⟨us, i1, e1, HS⟩
  replace HS := HS.join1
  have H7 := HS.H.here
  refine ops_nil ?_
  refine ⟨fun hne => absurd rfl hne, ?_⟩
  change MixZ _ _ _ _ _ _ [_, _, _, _, _, _, _, _, _, _, _, _, _, _, _, _, _, _, _, _, _, _, _, _, _, _, _, _, _, _, _, _, _, _, _, _, _, _, _, _, _, _, _, _, _, _, _, _, _, _, _, _, _, _, _, _, _, _, _, _, _, _] _
  refine mixz_nil ?_
  change Run _ _ _ _ [_, _, _, _, _, _, _, _, _, _, _, _, _, _, _, _, _, _, _, _, _, _, _, _, _, _, _, _, _, _, _, _, _, _, _, _, _, _, _, _, _, _, _, _, _, _, _, _, _, _, _, _, _, _, _, _, _, _, _, _, _, _] _
  refine run_seq ?_
  refine run_region ?_
  refine ops_val (ex_move rfl) ?_
  refine ops_val (ex_move rfl) ?_
  refine ops_val (ex_nilCheck rfl) ?_
  change Ops _ _ _ _ _ _ [_, _, _, _, _, _, _, _, _, _, _, _, _, _, _, _, _, _, _, _, _, _, _, _, _, _, _, _, _, _, _, _, _, _, _, _, _, _, _, _, _, _, _, _, _, _, _, _, _, _, _, _, _, _, _, _, _, _, _, _, _, _] _
  refine ops_val (ex_fieldAddr fl28_10 rfl) ?_
  refine ops_call (ex_call gf78 rfl) (HS.one (q := 10) (vflag_R gp gr gb cb sb b hcb hbl) (by decide) (show o + 10 + 1 ≤ _ by omega) (At.cast (hat.trans (At.sub _ 10 1)) rfl)) ?_
  rintro _ w8 ⟨us, i1, e1, HS⟩
  replace HS := HS.join1
  have H8 := HS.H.here
  refine ops_nil ?_
  change Run _ _ _ _ [_, _, _, _, _, _, _, _, _, _, _, _, _, _, _, _, _, _, _, _, _, _, _, _, _, _, _, _, _, _, _, _, _, _, _, _, _, _, _, _, _, _, _, _, _, _, _, _, _, _, _, _, _, _, _, _, _, _, _, _, _, _] _
  refine run_seq ?_
  refine run_region ?_
  refine ops_val (ex_move rfl) ?_
  refine ops_val (ex_move rfl) ?_
  refine ops_val (ex_nilCheck rfl) ?_
  change Ops _ _ _ _ _ _ [_, _, _, _, _, _, _, _, _, _, _, _, _, _, _, _, _, _, _, _, _, _, _, _, _, _, _, _, _, _, _, _, _, _, _, _, _, _, _, _, _, _, _, _, _, _, _, _, _, _, _, _, _, _, _, _, _, _, _, _, _, _] _
  refine ops_val (ex_fieldAddr fl28_11 rfl) ?_
  refine ops_call (ex_call gf79 rfl) (HS.one (q := 11) (vop_R gp gr gb cb sb b hcb hbl) (by decide) (show o + 11 + 6 ≤ _ by omega) (At.cast (hat.trans (At.sub _ 11 6)) rfl)) ?_
  rintro _ w9 ⟨us, i1, e1, HS⟩
  replace HS := HS.join1
  have H9 := HS.H.here
  refine ops_nil ?_
  change Run _ _ _ _ [_, _, _, _, _, _, _, _, _, _, _, _, _, _, _, _, _, _, _, _, _, _, _, _, _, _, _, _, _, _, _, _, _, _, _, _, _, _, _, _, _, _, _, _, _, _, _, _, _, _, _, _, _, _, _, _, _, _, _, _, _, _] _
  refine run_seq ?_
  refine run_region ?_
  refine ops_val (ex_move rfl) ?_
  refine ops_val (ex_move rfl) ?_
  refine ops_val (ex_nilCheck rfl) ?_
  change Ops _ _ _ _ _ _ [_, _, _, _, _, _, _, _, _, _, _, _, _, _, _, _, _, _, _, _, _, _, _, _, _, _, _, _, _, _, _, _, _, _, _, _, _, _, _, _, _, _, _, _, _, _, _, _, _, _, _, _, _, _, _, _, _, _, _, _, _, _] _
  refine ops_val (ex_fieldAddr fl28_12 rfl) ?_
  refine ops_call (ex_call gf80 rfl) (HS.one (q := 17) (vplan_R gp gr gb cb sb b hcb hbl) (by decide) (show o + 17 + 7 ≤ _ by omega) (At.cast (hat.trans (At.sub _ 17 7)) rfl)) ?_
  rintro _ w10 ⟨us, i1, e1, HS⟩
  replace HS := HS.join1
  have H10 := HS.H.here
  refine ops_nil ?_
  change Run _ _ _ _ [_, _, _, _, _, _, _, _, _, _, _, _, _, _, _, _, _, _, _, _, _, _, _, _, _, _, _, _, _, _, _, _, _, _, _, _, _, _, _, _, _, _, _, _, _, _, _, _, _, _, _, _, _, _, _, _, _, _, _, _, _, _] _
  refine run_region ?_
  refine ops_val (ex_move rfl) ?_
  refine ops_val (ex_move rfl) ?_
  refine ops_val (ex_nilCheck rfl) ?_
  change Ops _ _ _ _ _ _ [_, _, _, _, _, _, _, _, _, _, _, _, _, _, _, _, _, _, _, _, _, _, _, _, _, _, _, _, _, _, _, _, _, _, _, _, _, _, _, _, _, _, _, _, _, _, _, _, _, _, _, _, _, _, _, _, _, _, _, _, _, _] _
  refine ops_val (ex_fieldAddr fl28_13 rfl) ?_
  refine ops_call (ex_call gf81 rfl) (HS.one (q := 24) (vbytes_R gp gr gb cb sb b hcb hbl) (by decide) (show o + 24 + 1 ≤ _ by omega) (At.cast (hat.trans (At.sub _ 24 1)) rfl)) ?_
  rintro _ w11 ⟨us, i1, e1, HS⟩
  replace HS := HS.join1
  have H11 := HS.H.here
  refine ops_nil ?_
  change Run _ _ _ _ [_, _, _, _, _, _, _, _, _, _, _, _, _, _, _, _, _, _, _, _, _, _, _, _, _, _, _, _, _, _, _, _, _, _, _, _, _, _, _, _, _, _, _, _, _, _, _, _, _, _, _, _, _, _, _, _, _, _, _, _, _, _] _
  refine run_nil ?_
  refine fin_end0 rfl ?_
  exact HS.out
theorem vcommand_R : WalkR Try.prog 41 thcommand := vcommand_r
end Go.Proofs.Ytoeobicpdeklaaa
