/- Walks of layer 2, printed by wip/gen/codec.py. -/
import Derived.Test.YtoeobicpdeklaaaWireT
namespace Go.Proofs.Ytoeobicpdeklaaa
open Go Go.RowKit
set_option linter.unusedVariables false
attribute [local irreducible] Still Ops Does Cd
set_option maxRecDepth 100000 in
set_option maxHeartbeats 4000000 in
theorem pballot_w (gp : Nat) (g : Option Nat) (cap : Nat) (sp : List Value) (st : WS) (a : Addr) (x : thballot.X) (vs : List Value) (w0 : World) (H0 : Hp w0 w0 (bl (pw gp g cap sp st)) (pw gp g cap sp st)) (hP : POk 65536 g cap sp st) (hM : thballot.M w0 (fun b => b ∉ bl (pw gp g cap sp st)) x vs) (hC : Cl w0 (bl (pw gp g cap sp st)) a vs) (htw : false = true → Thawed w0 a) :
    Does Try.prog 85 #[.pointer (some ⟨gp, 0, none⟩), .pointer (some a)] w0 (fun _ w' => PwOut gp (wAll (thballot.fl x) st) w0 (bl (pw gp g cap sp st)) w') := by
  refine does_of Try.func85 Try.ntmps85 rfl ?_
  change Run _ _ _ _ [.pointer (some ⟨gp, 0, none⟩), .pointer (some a), undef, undef, undef, undef, undef, undef, undef, undef, undef, undef, undef] _
  have HS : WSt false gp a w0 (bl (pw gp g cap sp st)) w0 st thballot x vs g cap sp := ⟨H0, hP, hM, hC, fun h => ⟨htw h, by have hl := thballot.len hM; change vs.length = 2 at hl; omega⟩⟩
  have H := HS.H.here
  refine run_mixZ 8 [(true, 0), (true, 1), (true, 2), (true, 3), (true, 4), (true, 5), (true, 6), (false, 7), (false, 8)] H [0, 1] mixed (by decide) (by kernel_rfl) ?_
  rintro w1 hw1
  have H1 := Hp.drew H; rw [← hw1] at H1
  refine mixz_p rfl ?_
  refine mix1_val (fun wz hz => ex_move rfl) ?_
  refine mixz_p rfl ?_
  refine mix1_val (fun wz hz => ex_move rfl) ?_
  refine mixz_p rfl ?_
  refine mix1_val (fun wz hz => ex_nilCheck rfl) ?_
  change MixZ _ _ _ _ _ _ [_, _, _, _, _, _, _, _, _, _, _, _, _] _
  refine mixz_p rfl ?_
  refine mix1_val (fun wz hz => ex_fieldAddrA fl42_0 rfl) ?_
  refine mixz_p rfl ?_
  refine mix1_val (fun wz hz => ex_move rfl) ?_
  refine mixz_p rfl ?_
  refine mix1_val (fun wz hz => ex_nilCheck rfl) ?_
  change MixZ _ _ _ _ _ _ [_, _, _, _, _, _, _, _, _, _, _, _, _] _
  refine mixz_p rfl ?_
  refine mix1_val (fun wz hz => ex_fieldAddrA fl42_1 rfl) ?_
  refine mixz_o rfl ?_
  refine ops_buildSlice Try.underlying177 ty126 H1 rfl (by decide) rfl ?_
  intro w2 g2 H2 hg2
  refine ops_nil ?_
  refine ⟨fun hne => H2.pick [0, 1] (by decide), ?_⟩
  change MixZ _ _ _ _ _ _ [_, _, _, _, _, _, _, _, _, _, _, _, _] _
  refine mixz_o rfl ?_
  refine ops_call (ex_call gf61 rfl) (HS.grp (o := 0) pint_W H2 (by decide) (fun _ _ hM => (Th.part hM 0 2)) (At.cast (At.trans (At.self _) (At.sub _ 0 2)) (by decide))) ?_
  rintro _ w3 ⟨g, cap, sp, HS⟩
  have H3 := HS.H.here
  refine ops_nil ?_
  refine ⟨fun hne => absurd rfl hne, ?_⟩
  change MixZ _ _ _ _ _ _ [_, _, _, _, _, _, _, _, _, _, _, _, _] _
  refine mixz_nil ?_
  change Run _ _ _ _ [_, _, _, _, _, _, _, _, _, _, _, _, _] _
  refine run_nil ?_
  refine fin_end0 rfl ?_
  have hw0 : List.take 2 x = x := Th.whole hM
  refine HS.out ?_
  show _ = wAll (x) st
  simp only [List.drop_zero, wAll_part, wAll_append, Nat.reduceAdd, hw0]
theorem pballot_W : PenW Try.prog 85 thballot false := pballot_w
set_option maxRecDepth 100000 in
set_option maxHeartbeats 4000000 in
theorem pballot_r (gp gr : Nat) (gb : Option Nat) (cb : Nat) (sb : List Value) (b : List UInt8) (hcb : b.length ≤ cb) (hbl : b.length ≤ 65536) (go o i e : Nat) (U : TypeId) (cs : List Value) (w0 : World) (H0 : Hp w0 w0 (bl (pr gp gr gb cb sb b i e ++ [(some go, U, cs)])) (pr gp gr gb cb sb b i e ++ [(some go, U, cs)])) (hi : i ≤ b.length) (hat : At cs o thballot.zs) (hfit : o + thballot.sz ≤ cs.length) :
    Does Try.prog 85 #[.pointer (some ⟨gp, 0, none⟩), .pointer (some ⟨go, o, none⟩)] w0 (fun _ w' => RdOut (pr gp gr gb cb sb b) thballot go o U cs b i e w0.heap.size w0 (bl (pr gp gr gb cb sb b i e ++ [(some go, U, cs)])) w') := by
  refine does_of Try.func85 Try.ntmps85 rfl ?_
  change Run _ _ _ _ [.pointer (some ⟨gp, 0, none⟩), .pointer (some ⟨go, o, none⟩), undef, undef, undef, undef, undef, undef, undef, undef, undef, undef, undef] _
  change o + 2 ≤ cs.length at hfit
  have HS := RSt.start (R := pr gp gr gb cb sb b) (o := o) H0 hi
  have H := HS.H.here
  refine run_mixZ 8 [(true, 0), (true, 1), (true, 2), (true, 3), (true, 4), (true, 5), (true, 6), (false, 7), (false, 8)] H [0, 1, 2, 3] mixed (by decide) (by kernel_rfl) ?_
  rintro w1 hw1
  have H1 := Hp.drew H; rw [← hw1] at H1
  refine mixz_p rfl ?_
  refine mix1_val (fun wz hz => ex_move rfl) ?_
  refine mixz_p rfl ?_
  refine mix1_val (fun wz hz => ex_move rfl) ?_
  refine mixz_p rfl ?_
  refine mix1_val (fun wz hz => ex_nilCheck rfl) ?_
  change MixZ _ _ _ _ _ _ [_, _, _, _, _, _, _, _, _, _, _, _, _] _
  refine mixz_p rfl ?_
  refine mix1_val (fun wz hz => ex_fieldAddr fl42_0 rfl) ?_
  refine mixz_p rfl ?_
  refine mix1_val (fun wz hz => ex_move rfl) ?_
  refine mixz_p rfl ?_
  refine mix1_val (fun wz hz => ex_nilCheck rfl) ?_
  change MixZ _ _ _ _ _ _ [_, _, _, _, _, _, _, _, _, _, _, _, _] _
  refine mixz_p rfl ?_
  refine mix1_val (fun wz hz => ex_fieldAddr fl42_1 rfl) ?_
  refine mixz_o rfl ?_
  refine ops_buildSlice Try.underlying177 ty126 H1 rfl (by decide) rfl ?_
  intro w2 g2 H2 hg2
  refine ops_nil ?_
  refine ⟨fun hne => H2.pick [0, 1, 2, 3] (by decide), ?_⟩
  change MixZ _ _ _ _ _ _ [_, _, _, _, _, _, _, _, _, _, _, _, _] _
  refine mixz_o rfl ?_
  refine ops_call (ex_call gf61 rfl) (HS.grp (q := 0) (pint_R gp gr gb cb sb b hcb hbl) (by decide) H2 (by decide) (show o + 0 + 2 ≤ _ by omega) (At.cast (hat.trans (At.sub _ 0 2)) rfl) rfl rfl) ?_
  rintro _ w3 ⟨us, i1, e1, HS⟩
  replace HS := HS.join1
  have H3 := HS.H.here
  refine ops_nil ?_
  refine ⟨fun hne => absurd rfl hne, ?_⟩
  change MixZ _ _ _ _ _ _ [_, _, _, _, _, _, _, _, _, _, _, _, _] _
  refine mixz_nil ?_
  change Run _ _ _ _ [_, _, _, _, _, _, _, _, _, _, _, _, _] _
  refine run_nil ?_
  refine fin_end0 rfl ?_
  exact HS.out
theorem pballot_R : PenR Try.prog 85 thballot := pballot_r
set_option maxRecDepth 100000 in
set_option maxHeartbeats 4000000 in
theorem pvote_w (gp : Nat) (g : Option Nat) (cap : Nat) (sp : List Value) (st : WS) (a : Addr) (x : thvote.X) (vs : List Value) (w0 : World) (H0 : Hp w0 w0 (bl (pw gp g cap sp st)) (pw gp g cap sp st)) (hP : POk 65536 g cap sp st) (hM : thvote.M w0 (fun b => b ∉ bl (pw gp g cap sp st)) x vs) (hC : Cl w0 (bl (pw gp g cap sp st)) a vs) (htw : false = true → Thawed w0 a) :
    Does Try.prog 86 #[.pointer (some ⟨gp, 0, none⟩), .pointer (some a)] w0 (fun _ w' => PwOut gp (wAll (thvote.fl x) st) w0 (bl (pw gp g cap sp st)) w') := by
  refine does_of Try.func86 Try.ntmps86 rfl ?_
  change Run _ _ _ _ [.pointer (some ⟨gp, 0, none⟩), .pointer (some a), undef, undef, undef, undef, undef, undef, undef, undef, undef, undef, undef, undef, undef, undef, undef, undef, undef, undef] _
  have HS : WSt false gp a w0 (bl (pw gp g cap sp st)) w0 st thvote x vs g cap sp := ⟨H0, hP, hM, hC, fun h => ⟨htw h, by have hl := thvote.len hM; change vs.length = 4 at hl; omega⟩⟩
  have H := HS.H.here
  refine run_seq ?_
  refine run_region ?_
  refine ops_val (ex_move rfl) ?_
  refine ops_val (ex_move rfl) ?_
  refine ops_val (ex_nilCheck rfl) ?_
  change Ops _ _ _ _ _ _ [_, _, _, _, _, _, _, _, _, _, _, _, _, _, _, _, _, _, _, _] _
  refine ops_val (ex_fieldAddrA fl44_0 rfl) ?_
  refine ops_buildSlice Try.underlying177 ty126 H rfl (by decide) rfl ?_
  intro w1 g1 H1 hg1
  refine ops_call (ex_call gf61 rfl) (HS.grp (o := 0) pint_W H1 (by decide) (fun _ _ hM => (Th.part hM 0 1)) (At.cast (At.trans (At.self _) (At.sub _ 0 1)) (by decide))) ?_
  rintro _ w2 ⟨g, cap, sp, HS⟩
  have H2 := HS.H.here
  refine ops_nil ?_
  change Run _ _ _ _ [_, _, _, _, _, _, _, _, _, _, _, _, _, _, _, _, _, _, _, _] _
  refine run_seq ?_
  refine run_region ?_
  refine ops_val (ex_move rfl) ?_
  refine ops_val (ex_move rfl) ?_
  refine ops_val (ex_nilCheck rfl) ?_
  change Ops _ _ _ _ _ _ [_, _, _, _, _, _, _, _, _, _, _, _, _, _, _, _, _, _, _, _] _
  refine ops_val (ex_fieldAddrA fl44_1 rfl) ?_
  refine ops_call (ex_call gf85 rfl) (HS.one (o := 1) pballot_W (by decide) (fun _ _ hM => (Th.part hM 1 2)) (At.cast (At.trans (At.self _) (At.sub _ 1 2)) (by decide))) ?_
  rintro _ w3 ⟨g, cap, sp, HS⟩
  have H3 := HS.H.here
  refine ops_nil ?_
  change Run _ _ _ _ [_, _, _, _, _, _, _, _, _, _, _, _, _, _, _, _, _, _, _, _] _
  refine run_region ?_
  refine ops_val (ex_move rfl) ?_
  refine ops_val (ex_move rfl) ?_
  refine ops_val (ex_nilCheck rfl) ?_
  change Ops _ _ _ _ _ _ [_, _, _, _, _, _, _, _, _, _, _, _, _, _, _, _, _, _, _, _] _
  refine ops_val (ex_fieldAddrA fl44_2 rfl) ?_
  refine ops_call (ex_call gf75 rfl) (HS.one (o := 3) pbytes_W (by decide) (fun _ _ hM => (Th.part hM 3 1)) (At.cast (At.trans (At.self _) (At.sub _ 3 1)) (by decide))) ?_
  rintro _ w4 ⟨g, cap, sp, HS⟩
  have H4 := HS.H.here
  refine ops_nil ?_
  change Run _ _ _ _ [_, _, _, _, _, _, _, _, _, _, _, _, _, _, _, _, _, _, _, _] _
  refine run_nil ?_
  refine fin_end0 rfl ?_
  have hw0 : List.take 4 x = x := Th.whole hM
  refine HS.out ?_
  show _ = wAll (x) st
  simp only [List.drop_zero, wAll_part, wAll_append, Nat.reduceAdd, hw0]
theorem pvote_W : PenW Try.prog 86 thvote false := pvote_w
set_option maxRecDepth 100000 in
set_option maxHeartbeats 4000000 in
theorem pvote_r (gp gr : Nat) (gb : Option Nat) (cb : Nat) (sb : List Value) (b : List UInt8) (hcb : b.length ≤ cb) (hbl : b.length ≤ 65536) (go o i e : Nat) (U : TypeId) (cs : List Value) (w0 : World) (H0 : Hp w0 w0 (bl (pr gp gr gb cb sb b i e ++ [(some go, U, cs)])) (pr gp gr gb cb sb b i e ++ [(some go, U, cs)])) (hi : i ≤ b.length) (hat : At cs o thvote.zs) (hfit : o + thvote.sz ≤ cs.length) :
    Does Try.prog 86 #[.pointer (some ⟨gp, 0, none⟩), .pointer (some ⟨go, o, none⟩)] w0 (fun _ w' => RdOut (pr gp gr gb cb sb b) thvote go o U cs b i e w0.heap.size w0 (bl (pr gp gr gb cb sb b i e ++ [(some go, U, cs)])) w') := by
  refine does_of Try.func86 Try.ntmps86 rfl ?_
  change Run _ _ _ _ [.pointer (some ⟨gp, 0, none⟩), .pointer (some ⟨go, o, none⟩), undef, undef, undef, undef, undef, undef, undef, undef, undef, undef, undef, undef, undef, undef, undef, undef, undef, undef] _
  change o + 4 ≤ cs.length at hfit
  have HS := RSt.start (R := pr gp gr gb cb sb b) (o := o) H0 hi
  have H := HS.H.here
  refine run_seq ?_
  refine run_region ?_
  refine ops_val (ex_move rfl) ?_
  refine ops_val (ex_move rfl) ?_
  refine ops_val (ex_nilCheck rfl) ?_
  change Ops _ _ _ _ _ _ [_, _, _, _, _, _, _, _, _, _, _, _, _, _, _, _, _, _, _, _] _
  refine ops_val (ex_fieldAddr fl44_0 rfl) ?_
  refine ops_buildSlice Try.underlying177 ty126 H rfl (by decide) rfl ?_
  intro w1 g1 H1 hg1
  refine ops_call (ex_call gf61 rfl) (HS.grp (q := 0) (pint_R gp gr gb cb sb b hcb hbl) (by decide) H1 (by decide) (show o + 0 + 1 ≤ _ by omega) (At.cast (hat.trans (At.sub _ 0 1)) rfl) rfl rfl) ?_
  rintro _ w2 ⟨us, i1, e1, HS⟩
  replace HS := HS.join1
  have H2 := HS.H.here
  refine ops_nil ?_
  change Run _ _ _ _ [_, _, _, _, _, _, _, _, _, _, _, _, _, _, _, _, _, _, _, _] _
  refine run_seq ?_
  refine run_region ?_
  refine ops_val (ex_move rfl) ?_
  refine ops_val (ex_move rfl) ?_
  refine ops_val (ex_nilCheck rfl) ?_
  change Ops _ _ _ _ _ _ [_, _, _, _, _, _, _, _, _, _, _, _, _, _, _, _, _, _, _, _] _
  refine ops_val (ex_fieldAddr fl44_1 rfl) ?_
  refine ops_call (ex_call gf85 rfl) (HS.one (q := 1) (pballot_R gp gr gb cb sb b hcb hbl) (by decide) (show o + 1 + 2 ≤ _ by omega) (At.cast (hat.trans (At.sub _ 1 2)) rfl)) ?_
  rintro _ w3 ⟨us, i1, e1, HS⟩
  replace HS := HS.join1
  have H3 := HS.H.here
  refine ops_nil ?_
  change Run _ _ _ _ [_, _, _, _, _, _, _, _, _, _, _, _, _, _, _, _, _, _, _, _] _
  refine run_region ?_
  refine ops_val (ex_move rfl) ?_
  refine ops_val (ex_move rfl) ?_
  refine ops_val (ex_nilCheck rfl) ?_
  change Ops _ _ _ _ _ _ [_, _, _, _, _, _, _, _, _, _, _, _, _, _, _, _, _, _, _, _] _
  refine ops_val (ex_fieldAddr fl44_2 rfl) ?_
  refine ops_call (ex_call gf75 rfl) (HS.one (q := 3) (pbytes_R gp gr gb cb sb b hcb hbl) (by decide) (show o + 3 + 1 ≤ _ by omega) (At.cast (hat.trans (At.sub _ 3 1)) rfl)) ?_
  rintro _ w4 ⟨us, i1, e1, HS⟩
  replace HS := HS.join1
  have H4 := HS.H.here
  refine ops_nil ?_
  change Run _ _ _ _ [_, _, _, _, _, _, _, _, _, _, _, _, _, _, _, _, _, _, _, _] _
  refine run_nil ?_
  refine fin_end0 rfl ?_
  exact HS.out
theorem pvote_R : PenR Try.prog 86 thvote := pvote_r
set_option maxRecDepth 100000 in
set_option maxHeartbeats 4000000 in
theorem pentry_w (gp : Nat) (g : Option Nat) (cap : Nat) (sp : List Value) (st : WS) (a : Addr) (x : thentry.X) (vs : List Value) (w0 : World) (H0 : Hp w0 w0 (bl (pw gp g cap sp st)) (pw gp g cap sp st)) (hP : POk 65536 g cap sp st) (hM : thentry.M w0 (fun b => b ∉ bl (pw gp g cap sp st)) x vs) (hC : Cl w0 (bl (pw gp g cap sp st)) a vs) (htw : false = true → Thawed w0 a) :
    Does Try.prog 87 #[.pointer (some ⟨gp, 0, none⟩), .pointer (some a)] w0 (fun _ w' => PwOut gp (wAll (thentry.fl x) st) w0 (bl (pw gp g cap sp st)) w') := by
  refine does_of Try.func87 Try.ntmps87 rfl ?_
  change Run _ _ _ _ [.pointer (some ⟨gp, 0, none⟩), .pointer (some a), undef, undef, undef, undef, undef, undef, undef, undef, undef, undef, undef, undef, undef] _
  have HS : WSt false gp a w0 (bl (pw gp g cap sp st)) w0 st thentry x vs g cap sp := ⟨H0, hP, hM, hC, fun h => ⟨htw h, by have hl := thentry.len hM; change vs.length = 2 at hl; omega⟩⟩
  have H := HS.H.here
  refine run_seq ?_
  refine run_region ?_
  refine ops_val (ex_move rfl) ?_
  refine ops_val (ex_move rfl) ?_
  refine ops_val (ex_nilCheck rfl) ?_
  change Ops _ _ _ _ _ _ [_, _, _, _, _, _, _, _, _, _, _, _, _, _, _] _
  refine ops_val (ex_fieldAddrA fl46_0 rfl) ?_
  refine ops_buildSlice Try.underlying177 ty126 H rfl (by decide) rfl ?_
  intro w1 g1 H1 hg1
  refine ops_call (ex_call gf61 rfl) (HS.grp (o := 0) pint_W H1 (by decide) (fun _ _ hM => (Th.part hM 0 1)) (At.cast (At.trans (At.self _) (At.sub _ 0 1)) (by decide))) ?_
  rintro _ w2 ⟨g, cap, sp, HS⟩
  have H2 := HS.H.here
  refine ops_nil ?_
  change Run _ _ _ _ [_, _, _, _, _, _, _, _, _, _, _, _, _, _, _] _
  refine run_region ?_
  refine ops_val (ex_move rfl) ?_
  refine ops_val (ex_move rfl) ?_
  refine ops_val (ex_nilCheck rfl) ?_
  change Ops _ _ _ _ _ _ [_, _, _, _, _, _, _, _, _, _, _, _, _, _, _] _
  refine ops_val (ex_fieldAddrA fl46_1 rfl) ?_
  refine ops_call (ex_call gf75 rfl) (HS.one (o := 1) pbytes_W (by decide) (fun _ _ hM => (Th.part hM 1 1)) (At.cast (At.trans (At.self _) (At.sub _ 1 1)) (by decide))) ?_
  rintro _ w3 ⟨g, cap, sp, HS⟩
  have H3 := HS.H.here
  refine ops_nil ?_
  change Run _ _ _ _ [_, _, _, _, _, _, _, _, _, _, _, _, _, _, _] _
  refine run_nil ?_
  refine fin_end0 rfl ?_
  have hw0 : List.take 2 x = x := Th.whole hM
  refine HS.out ?_
  show _ = wAll (x) st
  simp only [List.drop_zero, wAll_part, wAll_append, Nat.reduceAdd, hw0]
theorem pentry_W : PenW Try.prog 87 thentry false := pentry_w
set_option maxRecDepth 100000 in
set_option maxHeartbeats 4000000 in
theorem pentry_r (gp gr : Nat) (gb : Option Nat) (cb : Nat) (sb : List Value) (b : List UInt8) (hcb : b.length ≤ cb) (hbl : b.length ≤ 65536) (go o i e : Nat) (U : TypeId) (cs : List Value) (w0 : World) (H0 : Hp w0 w0 (bl (pr gp gr gb cb sb b i e ++ [(some go, U, cs)])) (pr gp gr gb cb sb b i e ++ [(some go, U, cs)])) (hi : i ≤ b.length) (hat : At cs o thentry.zs) (hfit : o + thentry.sz ≤ cs.length) :
    Does Try.prog 87 #[.pointer (some ⟨gp, 0, none⟩), .pointer (some ⟨go, o, none⟩)] w0 (fun _ w' => RdOut (pr gp gr gb cb sb b) thentry go o U cs b i e w0.heap.size w0 (bl (pr gp gr gb cb sb b i e ++ [(some go, U, cs)])) w') := by
  refine does_of Try.func87 Try.ntmps87 rfl ?_
  change Run _ _ _ _ [.pointer (some ⟨gp, 0, none⟩), .pointer (some ⟨go, o, none⟩), undef, undef, undef, undef, undef, undef, undef, undef, undef, undef, undef, undef, undef] _
  change o + 2 ≤ cs.length at hfit
  have HS := RSt.start (R := pr gp gr gb cb sb b) (o := o) H0 hi
  have H := HS.H.here
  refine run_seq ?_
  refine run_region ?_
  refine ops_val (ex_move rfl) ?_
  refine ops_val (ex_move rfl) ?_
  refine ops_val (ex_nilCheck rfl) ?_
  change Ops _ _ _ _ _ _ [_, _, _, _, _, _, _, _, _, _, _, _, _, _, _] _
  refine ops_val (ex_fieldAddr fl46_0 rfl) ?_
  refine ops_buildSlice Try.underlying177 ty126 H rfl (by decide) rfl ?_
  intro w1 g1 H1 hg1
  refine ops_call (ex_call gf61 rfl) (HS.grp (q := 0) (pint_R gp gr gb cb sb b hcb hbl) (by decide) H1 (by decide) (show o + 0 + 1 ≤ _ by omega) (At.cast (hat.trans (At.sub _ 0 1)) rfl) rfl rfl) ?_
  rintro _ w2 ⟨us, i1, e1, HS⟩
  replace HS := HS.join1
  have H2 := HS.H.here
  refine ops_nil ?_
  change Run _ _ _ _ [_, _, _, _, _, _, _, _, _, _, _, _, _, _, _] _
  refine run_region ?_
  refine ops_val (ex_move rfl) ?_
  refine ops_val (ex_move rfl) ?_
  refine ops_val (ex_nilCheck rfl) ?_
  change Ops _ _ _ _ _ _ [_, _, _, _, _, _, _, _, _, _, _, _, _, _, _] _
  refine ops_val (ex_fieldAddr fl46_1 rfl) ?_
  refine ops_call (ex_call gf75 rfl) (HS.one (q := 1) (pbytes_R gp gr gb cb sb b hcb hbl) (by decide) (show o + 1 + 1 ≤ _ by omega) (At.cast (hat.trans (At.sub _ 1 1)) rfl)) ?_
  rintro _ w3 ⟨us, i1, e1, HS⟩
  replace HS := HS.join1
  have H3 := HS.H.here
  refine ops_nil ?_
  change Run _ _ _ _ [_, _, _, _, _, _, _, _, _, _, _, _, _, _, _] _
  refine run_nil ?_
  refine fin_end0 rfl ?_
  exact HS.out
theorem pentry_R : PenR Try.prog 87 thentry := pentry_r
set_option maxRecDepth 100000 in
set_option maxHeartbeats 4000000 in
theorem pright_w (gp : Nat) (g : Option Nat) (cap : Nat) (sp : List Value) (st : WS) (a : Addr) (x : thright.X) (vs : List Value) (w0 : World) (H0 : Hp w0 w0 (bl (pw gp g cap sp st)) (pw gp g cap sp st)) (hP : POk 65536 g cap sp st) (hM : thright.M w0 (fun b => b ∉ bl (pw gp g cap sp st)) x vs) (hC : Cl w0 (bl (pw gp g cap sp st)) a vs) (htw : false = true → Thawed w0 a) :
    Does Try.prog 88 #[.pointer (some ⟨gp, 0, none⟩), .pointer (some a)] w0 (fun _ w' => PwOut gp (wAll (thright.fl x) st) w0 (bl (pw gp g cap sp st)) w') := by
  refine does_of Try.func88 Try.ntmps88 rfl ?_
  change Run _ _ _ _ [.pointer (some ⟨gp, 0, none⟩), .pointer (some a), undef, undef, undef, undef, undef, undef, undef, undef, undef, undef, undef, undef, undef, undef, undef, undef, undef, undef, undef, undef, undef, undef, undef] _
  have HS : WSt false gp a w0 (bl (pw gp g cap sp st)) w0 st thright x vs g cap sp := ⟨H0, hP, hM, hC, fun h => ⟨htw h, by have hl := thright.len hM; change vs.length = 4 at hl; omega⟩⟩
  have H := HS.H.here
  refine run_seq ?_
  refine run_region ?_
  refine ops_val (ex_move rfl) ?_
  refine ops_val (ex_move rfl) ?_
  refine ops_val (ex_nilCheck rfl) ?_
  change Ops _ _ _ _ _ _ [_, _, _, _, _, _, _, _, _, _, _, _, _, _, _, _, _, _, _, _, _, _, _, _, _] _
  refine ops_val (ex_fieldAddrA fl48_0 rfl) ?_
  refine ops_buildSlice Try.underlying177 ty126 H rfl (by decide) rfl ?_
  intro w1 g1 H1 hg1
  refine ops_call (ex_call gf61 rfl) (HS.grp (o := 0) pint_W H1 (by decide) (fun _ _ hM => (Th.part hM 0 1)) (At.cast (At.trans (At.self _) (At.sub _ 0 1)) (by decide))) ?_
  rintro _ w2 ⟨g, cap, sp, HS⟩
  have H2 := HS.H.here
  refine ops_nil ?_
  change Run _ _ _ _ [_, _, _, _, _, _, _, _, _, _, _, _, _, _, _, _, _, _, _, _, _, _, _, _, _] _
  refine run_seq ?_
  refine run_region ?_
  refine ops_val (ex_move rfl) ?_
  refine ops_val (ex_move rfl) ?_
  refine ops_val (ex_nilCheck rfl) ?_
  change Ops _ _ _ _ _ _ [_, _, _, _, _, _, _, _, _, _, _, _, _, _, _, _, _, _, _, _, _, _, _, _, _] _
  refine ops_val (ex_fieldAddrA fl48_1 rfl) ?_
  refine ops_buildSlice Try.underlying217 ty140 H2 rfl (by decide) rfl ?_
  intro w3 g3 H3 hg3
  refine ops_call (ex_call gf71 rfl) (HS.grp (o := 1) ptext_W H3 (by decide) (fun _ _ hM => (Th.part hM 1 1)) (At.cast (At.trans (At.self _) (At.sub _ 1 1)) (by decide))) ?_
  rintro _ w4 ⟨g, cap, sp, HS⟩
  have H4 := HS.H.here
  refine ops_nil ?_
  change Run _ _ _ _ [_, _, _, _, _, _, _, _, _, _, _, _, _, _, _, _, _, _, _, _, _, _, _, _, _] _
  refine run_mixZ 8 [(true, 0), (true, 1), (true, 2), (true, 3), (true, 4), (true, 5), (true, 6), (false, 7), (false, 8)] H4 [0, 1] mixed (by decide) (by kernel_rfl) ?_
  rintro w5 hw5
  have H5 := Hp.drew H4; rw [← hw5] at H5
  refine mixz_p rfl ?_
  refine mix1_val (fun wz hz => ex_move rfl) ?_
  refine mixz_p rfl ?_
  refine mix1_val (fun wz hz => ex_move rfl) ?_
  refine mixz_p rfl ?_
  refine mix1_val (fun wz hz => ex_nilCheck rfl) ?_
  change MixZ _ _ _ _ _ _ [_, _, _, _, _, _, _, _, _, _, _, _, _, _, _, _, _, _, _, _, _, _, _, _, _] _
  refine mixz_p rfl ?_
  refine mix1_val (fun wz hz => ex_fieldAddrA fl48_2 rfl) ?_
  refine mixz_p rfl ?_
  refine mix1_val (fun wz hz => ex_move rfl) ?_
  refine mixz_p rfl ?_
  refine mix1_val (fun wz hz => ex_nilCheck rfl) ?_
  change MixZ _ _ _ _ _ _ [_, _, _, _, _, _, _, _, _, _, _, _, _, _, _, _, _, _, _, _, _, _, _, _, _] _
  refine mixz_p rfl ?_
  refine mix1_val (fun wz hz => ex_fieldAddrA fl48_3 rfl) ?_
  refine mixz_o rfl ?_
  refine ops_buildSlice Try.underlying177 ty126 H5 rfl (by decide) rfl ?_
  intro w6 g6 H6 hg6
  refine ops_nil ?_
  refine ⟨fun hne => H6.pick [0, 1] (by decide), ?_⟩
  change MixZ _ _ _ _ _ _ [_, _, _, _, _, _, _, _, _, _, _, _, _, _, _, _, _, _, _, _, _, _, _, _, _] _
  refine mixz_o rfl ?_
  refine ops_call (ex_call gf61 rfl) (HS.grp (o := 2) pint_W H6 (by decide) (fun _ _ hM => (Th.part hM 2 2)) (At.cast (At.trans (At.self _) (At.sub _ 2 2)) (by decide))) ?_
  rintro _ w7 ⟨g, cap, sp, HS⟩
  have H7 := HS.H.here
  refine ops_nil ?_
  refine ⟨fun hne => absurd rfl hne, ?_⟩
  change MixZ _ _ _ _ _ _ [_, _, _, _, _, _, _, _, _, _, _, _, _, _, _, _, _, _, _, _, _, _, _, _, _] _
  refine mixz_nil ?_
  change Run _ _ _ _ [_, _, _, _, _, _, _, _, _, _, _, _, _, _, _, _, _, _, _, _, _, _, _, _, _] _
  refine run_nil ?_
  refine fin_end0 rfl ?_
  have hw0 : List.take 4 x = x := Th.whole hM
  refine HS.out ?_
  show _ = wAll (x) st
  simp only [List.drop_zero, wAll_part, wAll_append, Nat.reduceAdd, hw0]
theorem pright_W : PenW Try.prog 88 thright false := pright_w
set_option maxRecDepth 100000 in
set_option maxHeartbeats 4000000 in
theorem pright_r (gp gr : Nat) (gb : Option Nat) (cb : Nat) (sb : List Value) (b : List UInt8) (hcb : b.length ≤ cb) (hbl : b.length ≤ 65536) (go o i e : Nat) (U : TypeId) (cs : List Value) (w0 : World) (H0 : Hp w0 w0 (bl (pr gp gr gb cb sb b i e ++ [(some go, U, cs)])) (pr gp gr gb cb sb b i e ++ [(some go, U, cs)])) (hi : i ≤ b.length) (hat : At cs o thright.zs) (hfit : o + thright.sz ≤ cs.length) :
    Does Try.prog 88 #[.pointer (some ⟨gp, 0, none⟩), .pointer (some ⟨go, o, none⟩)] w0 (fun _ w' => RdOut (pr gp gr gb cb sb b) thright go o U cs b i e w0.heap.size w0 (bl (pr gp gr gb cb sb b i e ++ [(some go, U, cs)])) w') := by
  refine does_of Try.func88 Try.ntmps88 rfl ?_
  change Run _ _ _ _ [.pointer (some ⟨gp, 0, none⟩), .pointer (some ⟨go, o, none⟩), undef, undef, undef, undef, undef, undef, undef, undef, undef, undef, undef, undef, undef, undef, undef, undef, undef, undef, undef, undef, undef, undef, undef] _
  change o + 4 ≤ cs.length at hfit
  have HS := RSt.start (R := pr gp gr gb cb sb b) (o := o) H0 hi
  have H := HS.H.here
  refine run_seq ?_
  refine run_region ?_
  refine ops_val (ex_move rfl) ?_
  refine ops_val (ex_move rfl) ?_
  refine ops_val (ex_nilCheck rfl) ?_
  change Ops _ _ _ _ _ _ [_, _, _, _, _, _, _, _, _, _, _, _, _, _, _, _, _, _, _, _, _, _, _, _, _] _
  refine ops_val (ex_fieldAddr fl48_0 rfl) ?_
  refine ops_buildSlice Try.underlying177 ty126 H rfl (by decide) rfl ?_
  intro w1 g1 H1 hg1
  refine ops_call (ex_call gf61 rfl) (HS.grp (q := 0) (pint_R gp gr gb cb sb b hcb hbl) (by decide) H1 (by decide) (show o + 0 + 1 ≤ _ by omega) (At.cast (hat.trans (At.sub _ 0 1)) rfl) rfl rfl) ?_
  rintro _ w2 ⟨us, i1, e1, HS⟩
  replace HS := HS.join1
  have H2 := HS.H.here
  refine ops_nil ?_
  change Run _ _ _ _ [_, _, _, _, _, _, _, _, _, _, _, _, _, _, _, _, _, _, _, _, _, _, _, _, _] _
  refine run_seq ?_
  refine run_region ?_
  refine ops_val (ex_move rfl) ?_
  refine ops_val (ex_move rfl) ?_
  refine ops_val (ex_nilCheck rfl) ?_
  change Ops _ _ _ _ _ _ [_, _, _, _, _, _, _, _, _, _, _, _, _, _, _, _, _, _, _, _, _, _, _, _, _] _
  refine ops_val (ex_fieldAddr fl48_1 rfl) ?_
  refine ops_buildSlice Try.underlying217 ty140 H2 rfl (by decide) rfl ?_
  intro w3 g3 H3 hg3
  refine ops_call (ex_call gf71 rfl) (HS.grp (q := 1) (ptext_R gp gr gb cb sb b hcb hbl) (by decide) H3 (by decide) (show o + 1 + 1 ≤ _ by omega) (At.cast (hat.trans (At.sub _ 1 1)) rfl) rfl rfl) ?_
  rintro _ w4 ⟨us, i1, e1, HS⟩
  replace HS := HS.join1
  have H4 := HS.H.here
  refine ops_nil ?_
  change Run _ _ _ _ [_, _, _, _, _, _, _, _, _, _, _, _, _, _, _, _, _, _, _, _, _, _, _, _, _] _
  refine run_mixZ 8 [(true, 0), (true, 1), (true, 2), (true, 3), (true, 4), (true, 5), (true, 6), (false, 7), (false, 8)] H4 [0, 1, 2, 3] mixed (by decide) (by kernel_rfl) ?_
  rintro w5 hw5
  have H5 := Hp.drew H4; rw [← hw5] at H5
  refine mixz_p rfl ?_
  refine mix1_val (fun wz hz => ex_move rfl) ?_
  refine mixz_p rfl ?_
  refine mix1_val (fun wz hz => ex_move rfl) ?_
  refine mixz_p rfl ?_
  refine mix1_val (fun wz hz => ex_nilCheck rfl) ?_
  change MixZ _ _ _ _ _ _ [_, _, _, _, _, _, _, _, _, _, _, _, _, _, _, _, _, _, _, _, _, _, _, _, _] _
  refine mixz_p rfl ?_
  refine mix1_val (fun wz hz => ex_fieldAddr fl48_2 rfl) ?_
  refine mixz_p rfl ?_
  refine mix1_val (fun wz hz => ex_move rfl) ?_
  refine mixz_p rfl ?_
  refine mix1_val (fun wz hz => ex_nilCheck rfl) ?_
  change MixZ _ _ _ _ _ _ [_, _, _, _, _, _, _, _, _, _, _, _, _, _, _, _, _, _, _, _, _, _, _, _, _] _
  refine mixz_p rfl ?_
  refine mix1_val (fun wz hz => ex_fieldAddr fl48_3 rfl) ?_
  refine mixz_o rfl ?_
  refine ops_buildSlice Try.underlying177 ty126 H5 rfl (by decide) rfl ?_
  intro w6 g6 H6 hg6
  refine ops_nil ?_
  refine ⟨fun hne => H6.pick [0, 1, 2, 3] (by decide), ?_⟩
  change MixZ _ _ _ _ _ _ [_, _, _, _, _, _, _, _, _, _, _, _, _, _, _, _, _, _, _, _, _, _, _, _, _] _
  refine mixz_o rfl ?_
  refine ops_call (ex_call gf61 rfl) (HS.grp (q := 2) (pint_R gp gr gb cb sb b hcb hbl) (by decide) H6 (by decide) (show o + 2 + 2 ≤ _ by omega) (At.cast (hat.trans (At.sub _ 2 2)) rfl) rfl rfl) ?_
  rintro _ w7 ⟨us, i1, e1, HS⟩
  replace HS := HS.join1
  have H7 := HS.H.here
  refine ops_nil ?_
  refine ⟨fun hne => absurd rfl hne, ?_⟩
  change MixZ _ _ _ _ _ _ [_, _, _, _, _, _, _, _, _, _, _, _, _, _, _, _, _, _, _, _, _, _, _, _, _] _
  refine mixz_nil ?_
  change Run _ _ _ _ [_, _, _, _, _, _, _, _, _, _, _, _, _, _, _, _, _, _, _, _, _, _, _, _, _] _
  refine run_nil ?_
  refine fin_end0 rfl ?_
  exact HS.out
theorem pright_R : PenR Try.prog 88 thright := pright_r
set_option maxRecDepth 100000 in
set_option maxHeartbeats 4000000 in
theorem pnote_w (gp : Nat) (g : Option Nat) (cap : Nat) (sp : List Value) (st : WS) (a : Addr) (x : thnote.X) (vs : List Value) (w0 : World) (H0 : Hp w0 w0 (bl (pw gp g cap sp st)) (pw gp g cap sp st)) (hP : POk 65536 g cap sp st) (hM : thnote.M w0 (fun b => b ∉ bl (pw gp g cap sp st)) x vs) (hC : Cl w0 (bl (pw gp g cap sp st)) a vs) (htw : false = true → Thawed w0 a) :
    Does Try.prog 49 #[.pointer (some ⟨gp, 0, none⟩), .pointer (some a)] w0 (fun _ w' => PwOut gp (wAll (thnote.fl x) st) w0 (bl (pw gp g cap sp st)) w') := by
  refine does_of Try.func49 Try.ntmps49 rfl ?_
  change Run _ _ _ _ [.pointer (some ⟨gp, 0, none⟩), .pointer (some a), undef, undef, undef, undef, undef, undef, undef, undef, undef, undef, undef, undef, undef, undef, undef, undef, undef, undef, undef, undef, undef, undef, undef, undef, undef, undef, undef, undef, undef, undef, undef, undef, undef, undef, undef, undef, undef, undef, undef, undef] _
  have HS : WSt false gp a w0 (bl (pw gp g cap sp st)) w0 st thnote x vs g cap sp := ⟨H0, hP, hM, hC, fun h => ⟨htw h, by have hl := thnote.len hM; change vs.length = 16 at hl; omega⟩⟩
  have H := HS.H.here
  refine run_seq ?_
  refine run_mixZ 8 [(true, 0), (true, 1), (true, 2), (true, 3), (true, 4), (true, 5), (true, 6), (false, 7), (false, 8)] H [0, 1] mixed (by decide) (by kernel_rfl) ?_
  rintro w1 hw1
  have H1 := Hp.drew H; rw [← hw1] at H1
  refine mixz_p rfl ?_
  refine mix1_val (fun wz hz => ex_move rfl) ?_
  refine mixz_p rfl ?_
  refine mix1_val (fun wz hz => ex_move rfl) ?_
  refine mixz_p rfl ?_
  refine mix1_val (fun wz hz => ex_nilCheck rfl) ?_
  change MixZ _ _ _ _ _ _ [_, _, _, _, _, _, _, _, _, _, _, _, _, _, _, _, _, _, _, _, _, _, _, _, _, _, _, _, _, _, _, _, _, _, _, _, _, _, _, _, _, _] _
  refine mixz_p rfl ?_
  refine mix1_val (fun wz hz => ex_fieldAddrA fl50_0 rfl) ?_
  refine mixz_p rfl ?_
  refine mix1_val (fun wz hz => ex_move rfl) ?_
  refine mixz_p rfl ?_
  refine mix1_val (fun wz hz => ex_nilCheck rfl) ?_
  change MixZ _ _ _ _ _ _ [_, _, _, _, _, _, _, _, _, _, _, _, _, _, _, _, _, _, _, _, _, _, _, _, _, _, _, _, _, _, _, _, _, _, _, _, _, _, _, _, _, _] _
  refine mixz_p rfl ?_
  refine mix1_val (fun wz hz => ex_fieldAddrA fl50_1 rfl) ?_
  refine mixz_o rfl ?_
  refine ops_buildSlice Try.underlying177 ty126 H1 rfl (by decide) rfl ?_
  intro w2 g2 H2 hg2
  refine ops_nil ?_
  refine ⟨fun hne => H2.pick [0, 1] (by decide), ?_⟩
  change MixZ _ _ _ _ _ _ [_, _, _, _, _, _, _, _, _, _, _, _, _, _, _, _, _, _, _, _, _, _, _, _, _, _, _, _, _, _, _, _, _, _, _, _, _, _, _, _, _, _] _
  refine mixz_o rfl ?_
  refine ops_call (ex_call gf61 rfl) (HS.grp (o := 0) pint_W H2 (by decide) (fun _ _ hM => (Th.part hM 0 2)) (At.cast (At.trans (At.self _) (At.sub _ 0 2)) (by decide))) ?_
  rintro _ w3 ⟨g, cap, sp, HS⟩
  have H3 := HS.H.here
  refine ops_nil ?_
  refine ⟨fun hne => absurd rfl hne, ?_⟩
  change MixZ _ _ _ _ _ _ [_, _, _, _, _, _, _, _, _, _, _, _, _, _, _, _, _, _, _, _, _, _, _, _, _, _, _, _, _, _, _, _, _, _, _, _, _, _, _, _, _, _] _
  refine mixz_nil ?_
  change Run _ _ _ _ [_, _, _, _, _, _, _, _, _, _, _, _, _, _, _, _, _, _, _, _, _, _, _, _, _, _, _, _, _, _, _, _, _, _, _, _, _, _, _, _, _, _] _
  refine run_seq ?_
  refine run_region ?_
  refine ops_val (ex_move rfl) ?_
  refine ops_val (ex_move rfl) ?_
  refine ops_val (ex_nilCheck rfl) ?_
  change Ops _ _ _ _ _ _ [_, _, _, _, _, _, _, _, _, _, _, _, _, _, _, _, _, _, _, _, _, _, _, _, _, _, _, _, _, _, _, _, _, _, _, _, _, _, _, _, _, _] _
  refine ops_val (ex_fieldAddrA fl50_2 rfl) ?_
  refine ops_call (ex_call gf85 rfl) (HS.one (o := 2) pballot_W (by decide) (fun _ _ hM => (Th.part hM 2 2)) (At.cast (At.trans (At.self _) (At.sub _ 2 2)) (by decide))) ?_
  rintro _ w4 ⟨g, cap, sp, HS⟩
  have H4 := HS.H.here
  refine ops_nil ?_
  change Run _ _ _ _ [_, _, _, _, _, _, _, _, _, _, _, _, _, _, _, _, _, _, _, _, _, _, _, _, _, _, _, _, _, _, _, _, _, _, _, _, _, _, _, _, _, _] _
  refine run_seq ?_
  refine run_region ?_
  refine ops_val (ex_move rfl) ?_
  refine ops_val (ex_move rfl) ?_
  refine ops_val (ex_nilCheck rfl) ?_
  change Ops _ _ _ _ _ _ [_, _, _, _, _, _, _, _, _, _, _, _, _, _, _, _, _, _, _, _, _, _, _, _, _, _, _, _, _, _, _, _, _, _, _, _, _, _, _, _, _, _] _
  refine ops_val (ex_fieldAddrA fl50_3 rfl) ?_
  refine ops_call (ex_call gf86 rfl) (HS.one (o := 4) pvote_W (by decide) (fun _ _ hM => (Th.part hM 4 4)) (At.cast (At.trans (At.self _) (At.sub _ 4 4)) (by decide))) ?_
  rintro _ w5 ⟨g, cap, sp, HS⟩
  have H5 := HS.H.here
  refine ops_nil ?_
  change Run _ _ _ _ [_, _, _, _, _, _, _, _, _, _, _, _, _, _, _, _, _, _, _, _, _, _, _, _, _, _, _, _, _, _, _, _, _, _, _, _, _, _, _, _, _, _] _
  refine run_seq ?_
  refine run_region ?_
  refine ops_val (ex_move rfl) ?_
  refine ops_val (ex_move rfl) ?_
  refine ops_val (ex_nilCheck rfl) ?_
  change Ops _ _ _ _ _ _ [_, _, _, _, _, _, _, _, _, _, _, _, _, _, _, _, _, _, _, _, _, _, _, _, _, _, _, _, _, _, _, _, _, _, _, _, _, _, _, _, _, _] _
  refine ops_val (ex_fieldAddrA fl50_4 rfl) ?_
  refine ops_call (ex_call gf87 rfl) (HS.one (o := 8) pentry_W (by decide) (fun _ _ hM => (Th.part hM 8 2)) (At.cast (At.trans (At.self _) (At.sub _ 8 2)) (by decide))) ?_
  rintro _ w6 ⟨g, cap, sp, HS⟩
  have H6 := HS.H.here
  refine ops_nil ?_
  change Run _ _ _ _ [_, _, _, _, _, _, _, _, _, _, _, _, _, _, _, _, _, _, _, _, _, _, _, _, _, _, _, _, _, _, _, _, _, _, _, _, _, _, _, _, _, _] _
  refine run_seq ?_
  refine run_region ?_
  refine ops_val (ex_move rfl) ?_
  refine ops_val (ex_move rfl) ?_
  refine ops_val (ex_nilCheck rfl) ?_
  change Ops _ _ _ _ _ _ [_, _, _, _, _, _, _, _, _, _, _, _, _, _, _, _, _, _, _, _, _, _, _, _, _, _, _, _, _, _, _, _, _, _, _, _, _, _, _, _, _, _] _
  refine ops_val (ex_fieldAddrA fl50_5 rfl) ?_
  refine ops_call (ex_call gf88 rfl) (HS.one (o := 10) pright_W (by decide) (fun _ _ hM => (Th.part hM 10 4)) (At.cast (At.trans (At.self _) (At.sub _ 10 4)) (by decide))) ?_
  rintro _ w7 ⟨g, cap, sp, HS⟩
  have H7 := HS.H.here
  refine ops_nil ?_
  change Run _ _ _ _ [_, _, _, _, _, _, _, _, _, _, _, _, _, _, _, _, _, _, _, _, _, _, _, _, _, _, _, _, _, _, _, _, _, _, _, _, _, _, _, _, _, _] _
  refine run_mixZ 8 [(true, 0), (true, 1), (true, 2), (true, 3), (true, 4), (true, 5), (true, 6), (false, 7), (false, 8)] H7 [0, 1] mixed (by decide) (by kernel_rfl) ?_
  rintro w8 hw8
  have H8 := Hp.drew H7; rw [← hw8] at H8
  refine mixz_p rfl ?_
  refine mix1_val (fun wz hz => ex_move rfl) ?_
  refine mixz_p rfl ?_
  refine mix1_val (fun wz hz => ex_move rfl) ?_
  refine mixz_p rfl ?_
  refine mix1_val (fun wz hz => ex_nilCheck rfl) ?_
  change MixZ _ _ _ _ _ _ [_, _, _, _, _, _, _, _, _, _, _, _, _, _, _, _, _, _, _, _, _, _, _, _, _, _, _, _, _, _, _, _, _, _, _, _, _, _, _, _, _, _] _
  refine mixz_p rfl ?_
  refine mix1_val (fun wz hz => ex_fieldAddrA fl50_6 rfl) ?_
  refine mixz_p rfl ?_
  refine mix1_val (fun wz hz => ex_move rfl) ?_
  refine mixz_p rfl ?_
  refine mix1_val (fun wz hz => ex_nilCheck rfl) ?_
  change MixZ _ _ _ _ _ _ [_, _, _, _, _, _, _, _, _, _, _, _, _, _, _, _, _, _, _, _, _, _, _, _, _, _, _, _, _, _, _, _, _, _, _, _, _, _, _, _, _, _] _
  refine mixz_p rfl ?_
  refine mix1_val (fun wz hz => ex_fieldAddrA fl50_7 rfl) ?_
  refine mixz_o rfl ?_
  refine ops_buildSlice Try.underlying177 ty126 H8 rfl (by decide) rfl ?_
  intro w9 g9 H9 hg9
  refine ops_nil ?_
  refine ⟨fun hne => H9.pick [0, 1] (by decide), ?_⟩
  change MixZ _ _ _ _ _ _ [_, _, _, _, _, _, _, _, _, _, _, _, _, _, _, _, _, _, _, _, _, _, _, _, _, _, _, _, _, _, _, _, _, _, _, _, _, _, _, _, _, _] _
  refine mixz_o rfl ?_
  refine ops_call (ex_call gf61 rfl) (HS.grp (o := 14) pint_W H9 (by decide) (fun _ _ hM => (Th.part hM 14 2)) (At.cast (At.trans (At.self _) (At.sub _ 14 2)) (by decide))) ?_
  rintro _ w10 ⟨g, cap, sp, HS⟩
  have H10 := HS.H.here
  refine ops_nil ?_
  refine ⟨fun hne => absurd rfl hne, ?_⟩
  change MixZ _ _ _ _ _ _ [_, _, _, _, _, _, _, _, _, _, _, _, _, _, _, _, _, _, _, _, _, _, _, _, _, _, _, _, _, _, _, _, _, _, _, _, _, _, _, _, _, _] _
  refine mixz_nil ?_
  change Run _ _ _ _ [_, _, _, _, _, _, _, _, _, _, _, _, _, _, _, _, _, _, _, _, _, _, _, _, _, _, _, _, _, _, _, _, _, _, _, _, _, _, _, _, _, _] _
  refine run_nil ?_
  refine fin_end0 rfl ?_
  have hw0 : List.take 16 x = x := Th.whole hM
  refine HS.out ?_
  show _ = wAll (x) st
  simp only [List.drop_zero, wAll_part, wAll_append, Nat.reduceAdd, hw0]
theorem pnote_W : PenW Try.prog 49 thnote false := pnote_w
set_option maxRecDepth 100000 in
set_option maxHeartbeats 4000000 in
theorem pnote_r (gp gr : Nat) (gb : Option Nat) (cb : Nat) (sb : List Value) (b : List UInt8) (hcb : b.length ≤ cb) (hbl : b.length ≤ 65536) (go o i e : Nat) (U : TypeId) (cs : List Value) (w0 : World) (H0 : Hp w0 w0 (bl (pr gp gr gb cb sb b i e ++ [(some go, U, cs)])) (pr gp gr gb cb sb b i e ++ [(some go, U, cs)])) (hi : i ≤ b.length) (hat : At cs o thnote.zs) (hfit : o + thnote.sz ≤ cs.length) :
    Does Try.prog 49 #[.pointer (some ⟨gp, 0, none⟩), .pointer (some ⟨go, o, none⟩)] w0 (fun _ w' => RdOut (pr gp gr gb cb sb b) thnote go o U cs b i e w0.heap.size w0 (bl (pr gp gr gb cb sb b i e ++ [(some go, U, cs)])) w') := by
  refine does_of Try.func49 Try.ntmps49 rfl ?_
  change Run _ _ _ _ [.pointer (some ⟨gp, 0, none⟩), .pointer (some ⟨go, o, none⟩), undef, undef, undef, undef, undef, undef, undef, undef, undef, undef, undef, undef, undef, undef, undef, undef, undef, undef, undef, undef, undef, undef, undef, undef, undef, undef, undef, undef, undef, undef, undef, undef, undef, undef, undef, undef, undef, undef, undef, undef] _
  change o + 16 ≤ cs.length at hfit
  have HS := RSt.start (R := pr gp gr gb cb sb b) (o := o) H0 hi
  have H := HS.H.here
  refine run_seq ?_
  refine run_mixZ 8 [(true, 0), (true, 1), (true, 2), (true, 3), (true, 4), (true, 5), (true, 6), (false, 7), (false, 8)] H [0, 1, 2, 3] mixed (by decide) (by kernel_rfl) ?_
  rintro w1 hw1
  have H1 := Hp.drew H; rw [← hw1] at H1
  refine mixz_p rfl ?_
  refine mix1_val (fun wz hz => ex_move rfl) ?_
  refine mixz_p rfl ?_
  refine mix1_val (fun wz hz => ex_move rfl) ?_
  refine mixz_p rfl ?_
  refine mix1_val (fun wz hz => ex_nilCheck rfl) ?_
  change MixZ _ _ _ _ _ _ [_, _, _, _, _, _, _, _, _, _, _, _, _, _, _, _, _, _, _, _, _, _, _, _, _, _, _, _, _, _, _, _, _, _, _, _, _, _, _, _, _, _] _
  refine mixz_p rfl ?_
  refine mix1_val (fun wz hz => ex_fieldAddr fl50_0 rfl) ?_
  refine mixz_p rfl ?_
  refine mix1_val (fun wz hz => ex_move rfl) ?_
  refine mixz_p rfl ?_
  refine mix1_val (fun wz hz => ex_nilCheck rfl) ?_
  change MixZ _ _ _ _ _ _ [_, _, _, _, _, _, _, _, _, _, _, _, _, _, _, _, _, _, _, _, _, _, _, _, _, _, _, _, _, _, _, _, _, _, _, _, _, _, _, _, _, _] _
  refine mixz_p rfl ?_
  refine mix1_val (fun wz hz => ex_fieldAddr fl50_1 rfl) ?_
  refine mixz_o rfl ?_
  refine ops_buildSlice Try.underlying177 ty126 H1 rfl (by decide) rfl ?_
  intro w2 g2 H2 hg2
  refine ops_nil ?_
  refine ⟨fun hne => H2.pick [0, 1, 2, 3] (by decide), ?_⟩
  change MixZ _ _ _ _ _ _ [_, _, _, _, _, _, _, _, _, _, _, _, _, _, _, _, _, _, _, _, _, _, _, _, _, _, _, _, _, _, _, _, _, _, _, _, _, _, _, _, _, _] _
  refine mixz_o rfl ?_
  refine ops_call (ex_call gf61 rfl) (HS.grp (q := 0) (pint_R gp gr gb cb sb b hcb hbl) (by decide) H2 (by decide) (show o + 0 + 2 ≤ _ by omega) (At.cast (hat.trans (At.sub _ 0 2)) rfl) rfl rfl) ?_
  rintro _ w3 ⟨us, i1, e1, HS⟩
  replace HS := HS.join1
  have H3 := HS.H.here
  refine ops_nil ?_
  refine ⟨fun hne => absurd rfl hne, ?_⟩
  change MixZ _ _ _ _ _ _ [_, _, _, _, _, _, _, _, _, _, _, _, _, _, _, _, _, _, _, _, _, _, _, _, _, _, _, _, _, _, _, _, _, _, _, _, _, _, _, _, _, _] _
  refine mixz_nil ?_
  change Run _ _ _ _ [_, _, _, _, _, _, _, _, _, _, _, _, _, _, _, _, _, _, _, _, _, _, _, _, _, _, _, _, _, _, _, _, _, _, _, _, _, _, _, _, _, _] _
  refine run_seq ?_
  refine run_region ?_
  refine ops_val (ex_move rfl) ?_
  refine ops_val (ex_move rfl) ?_
  refine ops_val (ex_nilCheck rfl) ?_
  change Ops _ _ _ _ _ _ [_, _, _, _, _, _, _, _, _, _, _, _, _, _, _, _, _, _, _, _, _, _, _, _, _, _, _, _, _, _, _, _, _, _, _, _, _, _, _, _, _, _] _
  refine ops_val (ex_fieldAddr fl50_2 rfl) ?_
  refine ops_call (ex_call gf85 rfl) (HS.one (q := 2) (pballot_R gp gr gb cb sb b hcb hbl) (by decide) (show o + 2 + 2 ≤ _ by omega) (At.cast (hat.trans (At.sub _ 2 2)) rfl)) ?_
  rintro _ w4 ⟨us, i1, e1, HS⟩
  replace HS := HS.join1
  have H4 := HS.H.here
  refine ops_nil ?_
  change Run _ _ _ _ [_, _, _, _, _, _, _, _, _, _, _, _, _, _, _, _, _, _, _, _, _, _, _, _, _, _, _, _, _, _, _, _, _, _, _, _, _, _, _, _, _, _] _
  refine run_seq ?_
  refine run_region ?_
  refine ops_val (ex_move rfl) ?_
  refine ops_val (ex_move rfl) ?_
  refine ops_val (ex_nilCheck rfl) ?_
  change Ops _ _ _ _ _ _ [_, _, _, _, _, _, _, _, _, _, _, _, _, _, _, _, _, _, _, _, _, _, _, _, _, _, _, _, _, _, _, _, _, _, _, _, _, _, _, _, _, _] _
  refine ops_val (ex_fieldAddr fl50_3 rfl) ?_
  refine ops_call (ex_call gf86 rfl) (HS.one (q := 4) (pvote_R gp gr gb cb sb b hcb hbl) (by decide) (show o + 4 + 4 ≤ _ by omega) (At.cast (hat.trans (At.sub _ 4 4)) rfl)) ?_
  rintro _ w5 ⟨us, i1, e1, HS⟩
  replace HS := HS.join1
  have H5 := HS.H.here
  refine ops_nil ?_
  change Run _ _ _ _ [_, _, _, _, _, _, _, _, _, _, _, _, _, _, _, _, _, _, _, _, _, _, _, _, _, _, _, _, _, _, _, _, _, _, _, _, _, _, _, _, _, _] _
  refine run_seq ?_
  refine run_region ?_
  refine ops_val (ex_move rfl) ?_
  refine ops_val (ex_move rfl) ?_
  refine ops_val (ex_nilCheck rfl) ?_
  change Ops _ _ _ _ _ _ [_, _, _, _, _, _, _, _, _, _, _, _, _, _, _, _, _, _, _, _, _, _, _, _, _, _, _, _, _, _, _, _, _, _, _, _, _, _, _, _, _, _] _
  refine ops_val (ex_fieldAddr fl50_4 rfl) ?_
  refine ops_call (ex_call gf87 rfl) (HS.one (q := 8) (pentry_R gp gr gb cb sb b hcb hbl) (by decide) (show o + 8 + 2 ≤ _ by omega) (At.cast (hat.trans (At.sub _ 8 2)) rfl)) ?_
  rintro _ w6 ⟨us, i1, e1, HS⟩
  replace HS := HS.join1
  have H6 := HS.H.here
  refine ops_nil ?_
  change Run _ _ _ _ [_, _, _, _, _, _, _, _, _, _, _, _, _, _, _, _, _, _, _, _, _, _, _, _, _, _, _, _, _, _, _, _, _, _, _, _, _, _, _, _, _, _] _
  refine run_seq ?_
  refine run_region ?_
  refine ops_val (ex_move rfl) ?_
  refine ops_val (ex_move rfl) ?_
  refine ops_val (ex_nilCheck rfl) ?_
  change Ops _ _ _ _ _ _ [_, _, _, _, _, _, _, _, _, _, _, _, _, _, _, _, _, _, _, _, _, _, _, _, _, _, _, _, _, _, _, _, _, _, _, _, _, _, _, _, _, _] _
  refine ops_val (ex_fieldAddr fl50_5 rfl) ?_
  refine ops_call (ex_call gf88 rfl) (HS.one (q := 10) (pright_R gp gr gb cb sb b hcb hbl) (by decide) (show o + 10 + 4 ≤ _ by omega) (At.cast (hat.trans (At.sub _ 10 4)) rfl)) ?_
  rintro _ w7 ⟨us, i1, e1, HS⟩
  replace HS := HS.join1
  have H7 := HS.H.here
  refine ops_nil ?_
  change Run _ _ _ _ [_, _, _, _, _, _, _, _, _, _, _, _, _, _, _, _, _, _, _, _, _, _, _, _, _, _, _, _, _, _, _, _, _, _, _, _, _, _, _, _, _, _] _
  refine run_mixZ 8 [(true, 0), (true, 1), (true, 2), (true, 3), (true, 4), (true, 5), (true, 6), (false, 7), (false, 8)] H7 [0, 1, 2, 3] mixed (by decide) (by kernel_rfl) ?_
  rintro w8 hw8
  have H8 := Hp.drew H7; rw [← hw8] at H8
  refine mixz_p rfl ?_
  refine mix1_val (fun wz hz => ex_move rfl) ?_
  refine mixz_p rfl ?_
  refine mix1_val (fun wz hz => ex_move rfl) ?_
  refine mixz_p rfl ?_
  refine mix1_val (fun wz hz => ex_nilCheck rfl) ?_
  change MixZ _ _ _ _ _ _ [_, _, _, _, _, _, _, _, _, _, _, _, _, _, _, _, _, _, _, _, _, _, _, _, _, _, _, _, _, _, _, _, _, _, _, _, _, _, _, _, _, _] _
  refine mixz_p rfl ?_
  refine mix1_val (fun wz hz => ex_fieldAddr fl50_6 rfl) ?_
  refine mixz_p rfl ?_
  refine mix1_val (fun wz hz => ex_move rfl) ?_
  refine mixz_p rfl ?_
  refine mix1_val (fun wz hz => ex_nilCheck rfl) ?_
  change MixZ _ _ _ _ _ _ [_, _, _, _, _, _, _, _, _, _, _, _, _, _, _, _, _, _, _, _, _, _, _, _, _, _, _, _, _, _, _, _, _, _, _, _, _, _, _, _, _, _] _
  refine mixz_p rfl ?_
  refine mix1_val (fun wz hz => ex_fieldAddr fl50_7 rfl) ?_
  refine mixz_o rfl ?_
  refine ops_buildSlice Try.underlying177 ty126 H8 rfl (by decide) rfl ?_
  intro w9 g9 H9 hg9
  refine ops_nil ?_
  refine ⟨fun hne => H9.pick [0, 1, 2, 3] (by decide), ?_⟩
  change MixZ _ _ _ _ _ _ [_, _, _, _, _, _, _, _, _, _, _, _, _, _, _, _, _, _, _, _, _, _, _, _, _, _, _, _, _, _, _, _, _, _, _, _, _, _, _, _, _, _] _
  refine mixz_o rfl ?_
  refine ops_call (ex_call gf61 rfl) (HS.grp (q := 14) (pint_R gp gr gb cb sb b hcb hbl) (by decide) H9 (by decide) (show o + 14 + 2 ≤ _ by omega) (At.cast (hat.trans (At.sub _ 14 2)) rfl) rfl rfl) ?_
  rintro _ w10 ⟨us, i1, e1, HS⟩
  replace HS := HS.join1
  have H10 := HS.H.here
  refine ops_nil ?_
  refine ⟨fun hne => absurd rfl hne, ?_⟩
  change MixZ _ _ _ _ _ _ [_, _, _, _, _, _, _, _, _, _, _, _, _, _, _, _, _, _, _, _, _, _, _, _, _, _, _, _, _, _, _, _, _, _, _, _, _, _, _, _, _, _] _
  refine mixz_nil ?_
  change Run _ _ _ _ [_, _, _, _, _, _, _, _, _, _, _, _, _, _, _, _, _, _, _, _, _, _, _, _, _, _, _, _, _, _, _, _, _, _, _, _, _, _, _, _, _, _] _
  refine run_nil ?_
  refine fin_end0 rfl ?_
  exact HS.out
theorem pnote_R : PenR Try.prog 49 thnote := pnote_r
set_option maxRecDepth 100000 in
set_option maxHeartbeats 4000000 in
theorem pop_w (gp : Nat) (g : Option Nat) (cap : Nat) (sp : List Value) (st : WS) (a : Addr) (x : thop.X) (vs : List Value) (w0 : World) (H0 : Hp w0 w0 (bl (pw gp g cap sp st)) (pw gp g cap sp st)) (hP : POk 65536 g cap sp st) (hM : thop.M w0 (fun b => b ∉ bl (pw gp g cap sp st)) x vs) (hC : Cl w0 (bl (pw gp g cap sp st)) a vs) (htw : false = true → Thawed w0 a) :
    Does Try.prog 73 #[.pointer (some ⟨gp, 0, none⟩), .pointer (some a)] w0 (fun _ w' => PwOut gp (wAll (thop.fl x) st) w0 (bl (pw gp g cap sp st)) w') := by
  refine does_of Try.func73 Try.ntmps73 rfl ?_
  change Run _ _ _ _ [.pointer (some ⟨gp, 0, none⟩), .pointer (some a), undef, undef, undef, undef, undef, undef, undef, undef, undef, undef, undef, undef, undef, undef, undef, undef, undef, undef, undef, undef, undef, undef, undef, undef, undef, undef, undef, undef, undef] _
  have HS : WSt false gp a w0 (bl (pw gp g cap sp st)) w0 st thop x vs g cap sp := ⟨H0, hP, hM, hC, fun h => ⟨htw h, by have hl := thop.len hM; change vs.length = 6 at hl; omega⟩⟩
  have H := HS.H.here
  refine run_seq ?_
  refine run_region ?_
  refine ops_val (ex_move rfl) ?_
  refine ops_val (ex_move rfl) ?_
  refine ops_val (ex_nilCheck rfl) ?_
  change Ops _ _ _ _ _ _ [_, _, _, _, _, _, _, _, _, _, _, _, _, _, _, _, _, _, _, _, _, _, _, _, _, _, _, _, _, _, _] _
  refine ops_val (ex_fieldAddrA fl23_0 rfl) ?_
  refine ops_buildSlice Try.underlying177 ty126 H rfl (by decide) rfl ?_
  intro w1 g1 H1 hg1
  refine ops_call (ex_call gf61 rfl) (HS.grp (o := 0) pint_W H1 (by decide) (fun _ _ hM => (Th.part hM 0 1)) (At.cast (At.trans (At.self _) (At.sub _ 0 1)) (by decide))) ?_
  rintro _ w2 ⟨g, cap, sp, HS⟩
  have H2 := HS.H.here
  refine ops_nil ?_
  change Run _ _ _ _ [_, _, _, _, _, _, _, _, _, _, _, _, _, _, _, _, _, _, _, _, _, _, _, _, _, _, _, _, _, _, _] _
  refine run_seq ?_
  refine run_mixZ 8 [(true, 0), (true, 1), (true, 2), (true, 3), (true, 4), (true, 5), (true, 6), (false, 7), (false, 8)] H2 [0, 1] mixed (by decide) (by kernel_rfl) ?_
  rintro w3 hw3
  have H3 := Hp.drew H2; rw [← hw3] at H3
  refine mixz_p rfl ?_
  refine mix1_val (fun wz hz => ex_move rfl) ?_
  refine mixz_p rfl ?_
  refine mix1_val (fun wz hz => ex_move rfl) ?_
  refine mixz_p rfl ?_
  refine mix1_val (fun wz hz => ex_nilCheck rfl) ?_
  change MixZ _ _ _ _ _ _ [_, _, _, _, _, _, _, _, _, _, _, _, _, _, _, _, _, _, _, _, _, _, _, _, _, _, _, _, _, _, _] _
  refine mixz_p rfl ?_
  refine mix1_val (fun wz hz => ex_fieldAddrA fl23_1 rfl) ?_
  refine mixz_p rfl ?_
  refine mix1_val (fun wz hz => ex_move rfl) ?_
  refine mixz_p rfl ?_
  refine mix1_val (fun wz hz => ex_nilCheck rfl) ?_
  change MixZ _ _ _ _ _ _ [_, _, _, _, _, _, _, _, _, _, _, _, _, _, _, _, _, _, _, _, _, _, _, _, _, _, _, _, _, _, _] _
  refine mixz_p rfl ?_
  refine mix1_val (fun wz hz => ex_fieldAddrA fl23_2 rfl) ?_
  refine mixz_o rfl ?_
  refine ops_buildSlice Try.underlying217 ty140 H3 rfl (by decide) rfl ?_
  intro w4 g4 H4 hg4
  refine ops_nil ?_
  refine ⟨fun hne => H4.pick [0, 1] (by decide), ?_⟩
  change MixZ _ _ _ _ _ _ [_, _, _, _, _, _, _, _, _, _, _, _, _, _, _, _, _, _, _, _, _, _, _, _, _, _, _, _, _, _, _] _
  refine mixz_o rfl ?_
  refine ops_call (ex_call gf71 rfl) (HS.grp (o := 1) ptext_W H4 (by decide) (fun _ _ hM => (Th.part hM 1 2)) (At.cast (At.trans (At.self _) (At.sub _ 1 2)) (by decide))) ?_
  rintro _ w5 ⟨g, cap, sp, HS⟩
  have H5 := HS.H.here
  refine ops_nil ?_
  refine ⟨fun hne => absurd rfl hne, ?_⟩
  change MixZ _ _ _ _ _ _ [_, _, _, _, _, _, _, _, _, _, _, _, _, _, _, _, _, _, _, _, _, _, _, _, _, _, _, _, _, _, _] _
  refine mixz_nil ?_
  change Run _ _ _ _ [_, _, _, _, _, _, _, _, _, _, _, _, _, _, _, _, _, _, _, _, _, _, _, _, _, _, _, _, _, _, _] _
  refine run_mixZ 11 [(true, 0), (true, 1), (true, 2), (true, 3), (true, 4), (true, 5), (true, 6), (true, 7), (true, 8), (true, 9), (false, 10), (false, 11)] H5 [0, 1] mixed (by decide) (by kernel_rfl) ?_
  rintro w6 hw6
  have H6 := Hp.drew H5; rw [← hw6] at H6
  refine mixz_p rfl ?_
  refine mix1_val (fun wz hz => ex_move rfl) ?_
  refine mixz_p rfl ?_
  refine mix1_val (fun wz hz => ex_move rfl) ?_
  refine mixz_p rfl ?_
  refine mix1_val (fun wz hz => ex_nilCheck rfl) ?_
  change MixZ _ _ _ _ _ _ [_, _, _, _, _, _, _, _, _, _, _, _, _, _, _, _, _, _, _, _, _, _, _, _, _, _, _, _, _, _, _] _
  refine mixz_p rfl ?_
  refine mix1_val (fun wz hz => ex_fieldAddrA fl23_3 rfl) ?_
  refine mixz_p rfl ?_
  refine mix1_val (fun wz hz => ex_move rfl) ?_
  refine mixz_p rfl ?_
  refine mix1_val (fun wz hz => ex_nilCheck rfl) ?_
  change MixZ _ _ _ _ _ _ [_, _, _, _, _, _, _, _, _, _, _, _, _, _, _, _, _, _, _, _, _, _, _, _, _, _, _, _, _, _, _] _
  refine mixz_p rfl ?_
  refine mix1_val (fun wz hz => ex_fieldAddrA fl23_4 rfl) ?_
  refine mixz_p rfl ?_
  refine mix1_val (fun wz hz => ex_move rfl) ?_
  refine mixz_p rfl ?_
  refine mix1_val (fun wz hz => ex_nilCheck rfl) ?_
  change MixZ _ _ _ _ _ _ [_, _, _, _, _, _, _, _, _, _, _, _, _, _, _, _, _, _, _, _, _, _, _, _, _, _, _, _, _, _, _] _
  refine mixz_p rfl ?_
  refine mix1_val (fun wz hz => ex_fieldAddrA fl23_5 rfl) ?_
  refine mixz_o rfl ?_
  refine ops_buildSlice Try.underlying177 ty126 H6 rfl (by decide) rfl ?_
  intro w7 g7 H7 hg7
  refine ops_nil ?_
  refine ⟨fun hne => H7.pick [0, 1] (by decide), ?_⟩
  change MixZ _ _ _ _ _ _ [_, _, _, _, _, _, _, _, _, _, _, _, _, _, _, _, _, _, _, _, _, _, _, _, _, _, _, _, _, _, _] _
  refine mixz_o rfl ?_
  refine ops_call (ex_call gf61 rfl) (HS.grp (o := 3) pint_W H7 (by decide) (fun _ _ hM => (Th.part hM 3 3)) (At.cast (At.trans (At.self _) (At.sub _ 3 3)) (by decide))) ?_
  rintro _ w8 ⟨g, cap, sp, HS⟩
  have H8 := HS.H.here
  refine ops_nil ?_
  refine ⟨fun hne => absurd rfl hne, ?_⟩
  change MixZ _ _ _ _ _ _ [_, _, _, _, _, _, _, _, _, _, _, _, _, _, _, _, _, _, _, _, _, _, _, _, _, _, _, _, _, _, _] _
  refine mixz_nil ?_
  change Run _ _ _ _ [_, _, _, _, _, _, _, _, _, _, _, _, _, _, _, _, _, _, _, _, _, _, _, _, _, _, _, _, _, _, _] _
  refine run_nil ?_
  refine fin_end0 rfl ?_
  have hw0 : List.take 6 x = x := Th.whole hM
  refine HS.out ?_
  show _ = wAll (x) st
  simp only [List.drop_zero, wAll_part, wAll_append, Nat.reduceAdd, hw0]
theorem pop_W : PenW Try.prog 73 thop false := pop_w
set_option maxRecDepth 100000 in
set_option maxHeartbeats 4000000 in
theorem pop_r (gp gr : Nat) (gb : Option Nat) (cb : Nat) (sb : List Value) (b : List UInt8) (hcb : b.length ≤ cb) (hbl : b.length ≤ 65536) (go o i e : Nat) (U : TypeId) (cs : List Value) (w0 : World) (H0 : Hp w0 w0 (bl (pr gp gr gb cb sb b i e ++ [(some go, U, cs)])) (pr gp gr gb cb sb b i e ++ [(some go, U, cs)])) (hi : i ≤ b.length) (hat : At cs o thop.zs) (hfit : o + thop.sz ≤ cs.length) :
    Does Try.prog 73 #[.pointer (some ⟨gp, 0, none⟩), .pointer (some ⟨go, o, none⟩)] w0 (fun _ w' => RdOut (pr gp gr gb cb sb b) thop go o U cs b i e w0.heap.size w0 (bl (pr gp gr gb cb sb b i e ++ [(some go, U, cs)])) w') := by
  refine does_of Try.func73 Try.ntmps73 rfl ?_
  change Run _ _ _ _ [.pointer (some ⟨gp, 0, none⟩), .pointer (some ⟨go, o, none⟩), undef, undef, undef, undef, undef, undef, undef, undef, undef, undef, undef, undef, undef, undef, undef, undef, undef, undef, undef, undef, undef, undef, undef, undef, undef, undef, undef, undef, undef] _
  change o + 6 ≤ cs.length at hfit
  have HS := RSt.start (R := pr gp gr gb cb sb b) (o := o) H0 hi
  have H := HS.H.here
  refine run_seq ?_
  refine run_region ?_
  refine ops_val (ex_move rfl) ?_
  refine ops_val (ex_move rfl) ?_
  refine ops_val (ex_nilCheck rfl) ?_
  change Ops _ _ _ _ _ _ [_, _, _, _, _, _, _, _, _, _, _, _, _, _, _, _, _, _, _, _, _, _, _, _, _, _, _, _, _, _, _] _
  refine ops_val (ex_fieldAddr fl23_0 rfl) ?_
  refine ops_buildSlice Try.underlying177 ty126 H rfl (by decide) rfl ?_
  intro w1 g1 H1 hg1
  refine ops_call (ex_call gf61 rfl) (HS.grp (q := 0) (pint_R gp gr gb cb sb b hcb hbl) (by decide) H1 (by decide) (show o + 0 + 1 ≤ _ by omega) (At.cast (hat.trans (At.sub _ 0 1)) rfl) rfl rfl) ?_
  rintro _ w2 ⟨us, i1, e1, HS⟩
  replace HS := HS.join1
  have H2 := HS.H.here
  refine ops_nil ?_
  change Run _ _ _ _ [_, _, _, _, _, _, _, _, _, _, _, _, _, _, _, _, _, _, _, _, _, _, _, _, _, _, _, _, _, _, _] _
  refine run_seq ?_
  refine run_mixZ 8 [(true, 0), (true, 1), (true, 2), (true, 3), (true, 4), (true, 5), (true, 6), (false, 7), (false, 8)] H2 [0, 1, 2, 3] mixed (by decide) (by kernel_rfl) ?_
  rintro w3 hw3
  have H3 := Hp.drew H2; rw [← hw3] at H3
  refine mixz_p rfl ?_
  refine mix1_val (fun wz hz => ex_move rfl) ?_
  refine mixz_p rfl ?_
  refine mix1_val (fun wz hz => ex_move rfl) ?_
  refine mixz_p rfl ?_
  refine mix1_val (fun wz hz => ex_nilCheck rfl) ?_
  change MixZ _ _ _ _ _ _ [_, _, _, _, _, _, _, _, _, _, _, _, _, _, _, _, _, _, _, _, _, _, _, _, _, _, _, _, _, _, _] _
  refine mixz_p rfl ?_
  refine mix1_val (fun wz hz => ex_fieldAddr fl23_1 rfl) ?_
  refine mixz_p rfl ?_
  refine mix1_val (fun wz hz => ex_move rfl) ?_
  refine mixz_p rfl ?_
  refine mix1_val (fun wz hz => ex_nilCheck rfl) ?_
  change MixZ _ _ _ _ _ _ [_, _, _, _, _, _, _, _, _, _, _, _, _, _, _, _, _, _, _, _, _, _, _, _, _, _, _, _, _, _, _] _
  refine mixz_p rfl ?_
  refine mix1_val (fun wz hz => ex_fieldAddr fl23_2 rfl) ?_
  refine mixz_o rfl ?_
  refine ops_buildSlice Try.underlying217 ty140 H3 rfl (by decide) rfl ?_
  intro w4 g4 H4 hg4
  refine ops_nil ?_
  refine ⟨fun hne => H4.pick [0, 1, 2, 3] (by decide), ?_⟩
  change MixZ _ _ _ _ _ _ [_, _, _, _, _, _, _, _, _, _, _, _, _, _, _, _, _, _, _, _, _, _, _, _, _, _, _, _, _, _, _] _
  refine mixz_o rfl ?_
  refine ops_call (ex_call gf71 rfl) (HS.grp (q := 1) (ptext_R gp gr gb cb sb b hcb hbl) (by decide) H4 (by decide) (show o + 1 + 2 ≤ _ by omega) (At.cast (hat.trans (At.sub _ 1 2)) rfl) rfl rfl) ?_
  rintro _ w5 ⟨us, i1, e1, HS⟩
  replace HS := HS.join1
  have H5 := HS.H.here
  refine ops_nil ?_
  refine ⟨fun hne => absurd rfl hne, ?_⟩
  change MixZ _ _ _ _ _ _ [_, _, _, _, _, _, _, _, _, _, _, _, _, _, _, _, _, _, _, _, _, _, _, _, _, _, _, _, _, _, _] _
  refine mixz_nil ?_
  change Run _ _ _ _ [_, _, _, _, _, _, _, _, _, _, _, _, _, _, _, _, _, _, _, _, _, _, _, _, _, _, _, _, _, _, _] _
  refine run_mixZ 11 [(true, 0), (true, 1), (true, 2), (true, 3), (true, 4), (true, 5), (true, 6), (true, 7), (true, 8), (true, 9), (false, 10), (false, 11)] H5 [0, 1, 2, 3] mixed (by decide) (by kernel_rfl) ?_
  rintro w6 hw6
  have H6 := Hp.drew H5; rw [← hw6] at H6
  refine mixz_p rfl ?_
  refine mix1_val (fun wz hz => ex_move rfl) ?_
  refine mixz_p rfl ?_
  refine mix1_val (fun wz hz => ex_move rfl) ?_
  refine mixz_p rfl ?_
  refine mix1_val (fun wz hz => ex_nilCheck rfl) ?_
  change MixZ _ _ _ _ _ _ [_, _, _, _, _, _, _, _, _, _, _, _, _, _, _, _, _, _, _, _, _, _, _, _, _, _, _, _, _, _, _] _
  refine mixz_p rfl ?_
  refine mix1_val (fun wz hz => ex_fieldAddr fl23_3 rfl) ?_
  refine mixz_p rfl ?_
  refine mix1_val (fun wz hz => ex_move rfl) ?_
  refine mixz_p rfl ?_
  refine mix1_val (fun wz hz => ex_nilCheck rfl) ?_
  change MixZ _ _ _ _ _ _ [_, _, _, _, _, _, _, _, _, _, _, _, _, _, _, _, _, _, _, _, _, _, _, _, _, _, _, _, _, _, _] _
  refine mixz_p rfl ?_
  refine mix1_val (fun wz hz => ex_fieldAddr fl23_4 rfl) ?_
  refine mixz_p rfl ?_
  refine mix1_val (fun wz hz => ex_move rfl) ?_
  refine mixz_p rfl ?_
  refine mix1_val (fun wz hz => ex_nilCheck rfl) ?_
  change MixZ _ _ _ _ _ _ [_, _, _, _, _, _, _, _, _, _, _, _, _, _, _, _, _, _, _, _, _, _, _, _, _, _, _, _, _, _, _] _
  refine mixz_p rfl ?_
  refine mix1_val (fun wz hz => ex_fieldAddr fl23_5 rfl) ?_
  refine mixz_o rfl ?_
  refine ops_buildSlice Try.underlying177 ty126 H6 rfl (by decide) rfl ?_
  intro w7 g7 H7 hg7
  refine ops_nil ?_
  refine ⟨fun hne => H7.pick [0, 1, 2, 3] (by decide), ?_⟩
  change MixZ _ _ _ _ _ _ [_, _, _, _, _, _, _, _, _, _, _, _, _, _, _, _, _, _, _, _, _, _, _, _, _, _, _, _, _, _, _] _
  refine mixz_o rfl ?_
  refine ops_call (ex_call gf61 rfl) (HS.grp (q := 3) (pint_R gp gr gb cb sb b hcb hbl) (by decide) H7 (by decide) (show o + 3 + 3 ≤ _ by omega) (At.cast (hat.trans (At.sub _ 3 3)) rfl) rfl rfl) ?_
  rintro _ w8 ⟨us, i1, e1, HS⟩
  replace HS := HS.join1
  have H8 := HS.H.here
  refine ops_nil ?_
  refine ⟨fun hne => absurd rfl hne, ?_⟩
  change MixZ _ _ _ _ _ _ [_, _, _, _, _, _, _, _, _, _, _, _, _, _, _, _, _, _, _, _, _, _, _, _, _, _, _, _, _, _, _] _
  refine mixz_nil ?_
  change Run _ _ _ _ [_, _, _, _, _, _, _, _, _, _, _, _, _, _, _, _, _, _, _, _, _, _, _, _, _, _, _, _, _, _, _] _
  refine run_nil ?_
  refine fin_end0 rfl ?_
  exact HS.out
theorem pop_R : PenR Try.prog 73 thop := pop_r
set_option maxRecDepth 100000 in
set_option maxHeartbeats 4000000 in
theorem pplan_w (gp : Nat) (g : Option Nat) (cap : Nat) (sp : List Value) (st : WS) (a : Addr) (x : thplan.X) (vs : List Value) (w0 : World) (H0 : Hp w0 w0 (bl (pw gp g cap sp st)) (pw gp g cap sp st)) (hP : POk 65536 g cap sp st) (hM : thplan.M w0 (fun b => b ∉ bl (pw gp g cap sp st)) x vs) (hC : Cl w0 (bl (pw gp g cap sp st)) a vs) (htw : false = true → Thawed w0 a) :
    Does Try.prog 74 #[.pointer (some ⟨gp, 0, none⟩), .pointer (some a)] w0 (fun _ w' => PwOut gp (wAll (thplan.fl x) st) w0 (bl (pw gp g cap sp st)) w') := by
  refine does_of Try.func74 Try.ntmps74 rfl ?_
  change Run _ _ _ _ [.pointer (some ⟨gp, 0, none⟩), .pointer (some a), undef, undef, undef, undef, undef, undef, undef, undef, undef, undef, undef, undef, undef, undef, undef, undef, undef, undef, undef, undef, undef, undef, undef, undef, undef, undef, undef, undef, undef, undef, undef, undef] _
  have HS : WSt false gp a w0 (bl (pw gp g cap sp st)) w0 st thplan x vs g cap sp := ⟨H0, hP, hM, hC, fun h => ⟨htw h, by have hl := thplan.len hM; change vs.length = 7 at hl; omega⟩⟩
  have H := HS.H.here
  refine run_seq ?_
  refine run_mixZ 11 [(true, 0), (true, 1), (true, 2), (true, 3), (true, 4), (true, 5), (true, 6), (true, 7), (true, 8), (true, 9), (false, 10), (false, 11)] H [0, 1] mixed (by decide) (by kernel_rfl) ?_
  rintro w1 hw1
  have H1 := Hp.drew H; rw [← hw1] at H1
  refine mixz_p rfl ?_
  refine mix1_val (fun wz hz => ex_move rfl) ?_
  refine mixz_p rfl ?_
  refine mix1_val (fun wz hz => ex_move rfl) ?_
  refine mixz_p rfl ?_
  refine mix1_val (fun wz hz => ex_nilCheck rfl) ?_
  change MixZ _ _ _ _ _ _ [_, _, _, _, _, _, _, _, _, _, _, _, _, _, _, _, _, _, _, _, _, _, _, _, _, _, _, _, _, _, _, _, _, _] _
  refine mixz_p rfl ?_
  refine mix1_val (fun wz hz => ex_fieldAddrA fl25_0 rfl) ?_
  refine mixz_p rfl ?_
  refine mix1_val (fun wz hz => ex_move rfl) ?_
  refine mixz_p rfl ?_
  refine mix1_val (fun wz hz => ex_nilCheck rfl) ?_
  change MixZ _ _ _ _ _ _ [_, _, _, _, _, _, _, _, _, _, _, _, _, _, _, _, _, _, _, _, _, _, _, _, _, _, _, _, _, _, _, _, _, _] _
  refine mixz_p rfl ?_
  refine mix1_val (fun wz hz => ex_fieldAddrA fl25_1 rfl) ?_
  refine mixz_p rfl ?_
  refine mix1_val (fun wz hz => ex_move rfl) ?_
  refine mixz_p rfl ?_
  refine mix1_val (fun wz hz => ex_nilCheck rfl) ?_
  change MixZ _ _ _ _ _ _ [_, _, _, _, _, _, _, _, _, _, _, _, _, _, _, _, _, _, _, _, _, _, _, _, _, _, _, _, _, _, _, _, _, _] _
  refine mixz_p rfl ?_
  refine mix1_val (fun wz hz => ex_fieldAddrA fl25_2 rfl) ?_
  refine mixz_o rfl ?_
  refine ops_buildSlice Try.underlying177 ty126 H1 rfl (by decide) rfl ?_
  intro w2 g2 H2 hg2
  refine ops_nil ?_
  refine ⟨fun hne => H2.pick [0, 1] (by decide), ?_⟩
  change MixZ _ _ _ _ _ _ [_, _, _, _, _, _, _, _, _, _, _, _, _, _, _, _, _, _, _, _, _, _, _, _, _, _, _, _, _, _, _, _, _, _] _
  refine mixz_o rfl ?_
  refine ops_call (ex_call gf61 rfl) (HS.grp (o := 0) pint_W H2 (by decide) (fun _ _ hM => (Th.part hM 0 3)) (At.cast (At.trans (At.self _) (At.sub _ 0 3)) (by decide))) ?_
  rintro _ w3 ⟨g, cap, sp, HS⟩
  have H3 := HS.H.here
  refine ops_nil ?_
  refine ⟨fun hne => absurd rfl hne, ?_⟩
  change MixZ _ _ _ _ _ _ [_, _, _, _, _, _, _, _, _, _, _, _, _, _, _, _, _, _, _, _, _, _, _, _, _, _, _, _, _, _, _, _, _, _] _
  refine mixz_nil ?_
  change Run _ _ _ _ [_, _, _, _, _, _, _, _, _, _, _, _, _, _, _, _, _, _, _, _, _, _, _, _, _, _, _, _, _, _, _, _, _, _] _
  refine run_seq ?_
  refine run_mixZ 8 [(true, 0), (true, 1), (true, 2), (true, 3), (true, 4), (true, 5), (true, 6), (false, 7), (false, 8)] H3 [0, 1] mixed (by decide) (by kernel_rfl) ?_
  rintro w4 hw4
  have H4 := Hp.drew H3; rw [← hw4] at H4
  refine mixz_p rfl ?_
  refine mix1_val (fun wz hz => ex_move rfl) ?_
  refine mixz_p rfl ?_
  refine mix1_val (fun wz hz => ex_move rfl) ?_
  refine mixz_p rfl ?_
  refine mix1_val (fun wz hz => ex_nilCheck rfl) ?_
  change MixZ _ _ _ _ _ _ [_, _, _, _, _, _, _, _, _, _, _, _, _, _, _, _, _, _, _, _, _, _, _, _, _, _, _, _, _, _, _, _, _, _] _
  refine mixz_p rfl ?_
  refine mix1_val (fun wz hz => ex_fieldAddrA fl25_3 rfl) ?_
  refine mixz_p rfl ?_
  refine mix1_val (fun wz hz => ex_move rfl) ?_
  refine mixz_p rfl ?_
  refine mix1_val (fun wz hz => ex_nilCheck rfl) ?_
  change MixZ _ _ _ _ _ _ [_, _, _, _, _, _, _, _, _, _, _, _, _, _, _, _, _, _, _, _, _, _, _, _, _, _, _, _, _, _, _, _, _, _] _
  refine mixz_p rfl ?_
  refine mix1_val (fun wz hz => ex_fieldAddrA fl25_4 rfl) ?_
  refine mixz_o rfl ?_
  refine ops_buildSlice Try.underlying217 ty140 H4 rfl (by decide) rfl ?_
  intro w5 g5 H5 hg5
  refine ops_nil ?_
  refine ⟨fun hne => H5.pick [0, 1] (by decide), ?_⟩
  change MixZ _ _ _ _ _ _ [_, _, _, _, _, _, _, _, _, _, _, _, _, _, _, _, _, _, _, _, _, _, _, _, _, _, _, _, _, _, _, _, _, _] _
  refine mixz_o rfl ?_
  refine ops_call (ex_call gf71 rfl) (HS.grp (o := 3) ptext_W H5 (by decide) (fun _ _ hM => (Th.part hM 3 2)) (At.cast (At.trans (At.self _) (At.sub _ 3 2)) (by decide))) ?_
  rintro _ w6 ⟨g, cap, sp, HS⟩
  have H6 := HS.H.here
  refine ops_nil ?_
  refine ⟨fun hne => absurd rfl hne, ?_⟩
  change MixZ _ _ _ _ _ _ [_, _, _, _, _, _, _, _, _, _, _, _, _, _, _, _, _, _, _, _, _, _, _, _, _, _, _, _, _, _, _, _, _, _] _
  refine mixz_nil ?_
  change Run _ _ _ _ [_, _, _, _, _, _, _, _, _, _, _, _, _, _, _, _, _, _, _, _, _, _, _, _, _, _, _, _, _, _, _, _, _, _] _
  refine run_mixZ 8 [(true, 0), (true, 1), (true, 2), (true, 3), (true, 4), (true, 5), (true, 6), (false, 7), (false, 8)] H6 [0, 1] mixed (by decide) (by kernel_rfl) ?_
  rintro w7 hw7
  have H7 := Hp.drew H6; rw [← hw7] at H7
  refine mixz_p rfl ?_
  refine mix1_val (fun wz hz => ex_move rfl) ?_
  refine mixz_p rfl ?_
  refine mix1_val (fun wz hz => ex_move rfl) ?_
  refine mixz_p rfl ?_
  refine mix1_val (fun wz hz => ex_nilCheck rfl) ?_
  change MixZ _ _ _ _ _ _ [_, _, _, _, _, _, _, _, _, _, _, _, _, _, _, _, _, _, _, _, _, _, _, _, _, _, _, _, _, _, _, _, _, _] _
  refine mixz_p rfl ?_
  refine mix1_val (fun wz hz => ex_fieldAddrA fl25_5 rfl) ?_
  refine mixz_p rfl ?_
  refine mix1_val (fun wz hz => ex_move rfl) ?_
  refine mixz_p rfl ?_
  refine mix1_val (fun wz hz => ex_nilCheck rfl) ?_
  change MixZ _ _ _ _ _ _ [_, _, _, _, _, _, _, _, _, _, _, _, _, _, _, _, _, _, _, _, _, _, _, _, _, _, _, _, _, _, _, _, _, _] _
  refine mixz_p rfl ?_
  refine mix1_val (fun wz hz => ex_fieldAddrA fl25_6 rfl) ?_
  refine mixz_o rfl ?_
  refine ops_buildSlice Try.underlying177 ty126 H7 rfl (by decide) rfl ?_
  intro w8 g8 H8 hg8
  refine ops_nil ?_
  refine ⟨fun hne => H8.pick [0, 1] (by decide), ?_⟩
  change MixZ _ _ _ _ _ _ [_, _, _, _, _, _, _, _, _, _, _, _, _, _, _, _, _, _, _, _, _, _, _, _, _, _, _, _, _, _, _, _, _, _] _
  refine mixz_o rfl ?_
  refine ops_call (ex_call gf61 rfl) (HS.grp (o := 5) pint_W H8 (by decide) (fun _ _ hM => (Th.part hM 5 2)) (At.cast (At.trans (At.self _) (At.sub _ 5 2)) (by decide))) ?_
  rintro _ w9 ⟨g, cap, sp, HS⟩
  have H9 := HS.H.here
  refine ops_nil ?_
  refine ⟨fun hne => absurd rfl hne, ?_⟩
  change MixZ _ _ _ _ _ _ [_, _, _, _, _, _, _, _, _, _, _, _, _, _, _, _, _, _, _, _, _, _, _, _, _, _, _, _, _, _, _, _, _, _] _
  refine mixz_nil ?_
  change Run _ _ _ _ [_, _, _, _, _, _, _, _, _, _, _, _, _, _, _, _, _, _, _, _, _, _, _, _, _, _, _, _, _, _, _, _, _, _] _
  refine run_nil ?_
  refine fin_end0 rfl ?_
  have hw0 : List.take 7 x = x := Th.whole hM
  refine HS.out ?_
  show _ = wAll (x) st
  simp only [List.drop_zero, wAll_part, wAll_append, Nat.reduceAdd, hw0]
theorem pplan_W : PenW Try.prog 74 thplan false := pplan_w
set_option maxRecDepth 100000 in
set_option maxHeartbeats 4000000 in
theorem pplan_r (gp gr : Nat) (gb : Option Nat) (cb : Nat) (sb : List Value) (b : List UInt8) (hcb : b.length ≤ cb) (hbl : b.length ≤ 65536) (go o i e : Nat) (U : TypeId) (cs : List Value) (w0 : World) (H0 : Hp w0 w0 (bl (pr gp gr gb cb sb b i e ++ [(some go, U, cs)])) (pr gp gr gb cb sb b i e ++ [(some go, U, cs)])) (hi : i ≤ b.length) (hat : At cs o thplan.zs) (hfit : o + thplan.sz ≤ cs.length) :
    Does Try.prog 74 #[.pointer (some ⟨gp, 0, none⟩), .pointer (some ⟨go, o, none⟩)] w0 (fun _ w' => RdOut (pr gp gr gb cb sb b) thplan go o U cs b i e w0.heap.size w0 (bl (pr gp gr gb cb sb b i e ++ [(some go, U, cs)])) w') := by
  refine does_of Try.func74 Try.ntmps74 rfl ?_
  change Run _ _ _ _ [.pointer (some ⟨gp, 0, none⟩), .pointer (some ⟨go, o, none⟩), undef, undef, undef, undef, undef, undef, undef, undef, undef, undef, undef, undef, undef, undef, undef, undef, undef, undef, undef, undef, undef, undef, undef, undef, undef, undef, undef, undef, undef, undef, undef, undef] _
  change o + 7 ≤ cs.length at hfit
  have HS := RSt.start (R := pr gp gr gb cb sb b) (o := o) H0 hi
  have H := HS.H.here
  refine run_seq ?_
  refine run_mixZ 11 [(true, 0), (true, 1), (true, 2), (true, 3), (true, 4), (true, 5), (true, 6), (true, 7), (true, 8), (true, 9), (false, 10), (false, 11)] H [0, 1, 2, 3] mixed (by decide) (by kernel_rfl) ?_
  rintro w1 hw1
  have H1 := Hp.drew H; rw [← hw1] at H1
  refine mixz_p rfl ?_
  refine mix1_val (fun wz hz => ex_move rfl) ?_
  refine mixz_p rfl ?_
  refine mix1_val (fun wz hz => ex_move rfl) ?_
  refine mixz_p rfl ?_
  refine mix1_val (fun wz hz => ex_nilCheck rfl) ?_
  change MixZ _ _ _ _ _ _ [_, _, _, _, _, _, _, _, _, _, _, _, _, _, _, _, _, _, _, _, _, _, _, _, _, _, _, _, _, _, _, _, _, _] _
  refine mixz_p rfl ?_
  refine mix1_val (fun wz hz => ex_fieldAddr fl25_0 rfl) ?_
  refine mixz_p rfl ?_
  refine mix1_val (fun wz hz => ex_move rfl) ?_
  refine mixz_p rfl ?_
  refine mix1_val (fun wz hz => ex_nilCheck rfl) ?_
  change MixZ _ _ _ _ _ _ [_, _, _, _, _, _, _, _, _, _, _, _, _, _, _, _, _, _, _, _, _, _, _, _, _, _, _, _, _, _, _, _, _, _] _
  refine mixz_p rfl ?_
  refine mix1_val (fun wz hz => ex_fieldAddr fl25_1 rfl) ?_
  refine mixz_p rfl ?_
  refine mix1_val (fun wz hz => ex_move rfl) ?_
  refine mixz_p rfl ?_
  refine mix1_val (fun wz hz => ex_nilCheck rfl) ?_
  change MixZ _ _ _ _ _ _ [_, _, _, _, _, _, _, _, _, _, _, _, _, _, _, _, _, _, _, _, _, _, _, _, _, _, _, _, _, _, _, _, _, _] _
  refine mixz_p rfl ?_
  refine mix1_val (fun wz hz => ex_fieldAddr fl25_2 rfl) ?_
  refine mixz_o rfl ?_
  refine ops_buildSlice Try.underlying177 ty126 H1 rfl (by decide) rfl ?_
  intro w2 g2 H2 hg2
  refine ops_nil ?_
  refine ⟨fun hne => H2.pick [0, 1, 2, 3] (by decide), ?_⟩
  change MixZ _ _ _ _ _ _ [_, _, _, _, _, _, _, _, _, _, _, _, _, _, _, _, _, _, _, _, _, _, _, _, _, _, _, _, _, _, _, _, _, _] _
  refine mixz_o rfl ?_
  refine ops_call (ex_call gf61 rfl) (HS.grp (q := 0) (pint_R gp gr gb cb sb b hcb hbl) (by decide) H2 (by decide) (show o + 0 + 3 ≤ _ by omega) (At.cast (hat.trans (At.sub _ 0 3)) rfl) rfl rfl) ?_
  rintro _ w3 ⟨us, i1, e1, HS⟩
  replace HS := HS.join1
  have H3 := HS.H.here
  refine ops_nil ?_
  refine ⟨fun hne => absurd rfl hne, ?_⟩
  change MixZ _ _ _ _ _ _ [_, _, _, _, _, _, _, _, _, _, _, _, _, _, _, _, _, _, _, _, _, _, _, _, _, _, _, _, _, _, _, _, _, _] _
  refine mixz_nil ?_
  change Run _ _ _ _ [_, _, _, _, _, _, _, _, _, _, _, _, _, _, _, _, _, _, _, _, _, _, _, _, _, _, _, _, _, _, _, _, _, _] _
  refine run_seq ?_
  refine run_mixZ 8 [(true, 0), (true, 1), (true, 2), (true, 3), (true, 4), (true, 5), (true, 6), (false, 7), (false, 8)] H3 [0, 1, 2, 3] mixed (by decide) (by kernel_rfl) ?_
  rintro w4 hw4
  have H4 := Hp.drew H3; rw [← hw4] at H4
  refine mixz_p rfl ?_
  refine mix1_val (fun wz hz => ex_move rfl) ?_
  refine mixz_p rfl ?_
  refine mix1_val (fun wz hz => ex_move rfl) ?_
  refine mixz_p rfl ?_
  refine mix1_val (fun wz hz => ex_nilCheck rfl) ?_
  change MixZ _ _ _ _ _ _ [_, _, _, _, _, _, _, _, _, _, _, _, _, _, _, _, _, _, _, _, _, _, _, _, _, _, _, _, _, _, _, _, _, _] _
  refine mixz_p rfl ?_
  refine mix1_val (fun wz hz => ex_fieldAddr fl25_3 rfl) ?_
  refine mixz_p rfl ?_
  refine mix1_val (fun wz hz => ex_move rfl) ?_
  refine mixz_p rfl ?_
  refine mix1_val (fun wz hz => ex_nilCheck rfl) ?_
  change MixZ _ _ _ _ _ _ [_, _, _, _, _, _, _, _, _, _, _, _, _, _, _, _, _, _, _, _, _, _, _, _, _, _, _, _, _, _, _, _, _, _] _
  refine mixz_p rfl ?_
  refine mix1_val (fun wz hz => ex_fieldAddr fl25_4 rfl) ?_
  refine mixz_o rfl ?_
  refine ops_buildSlice Try.underlying217 ty140 H4 rfl (by decide) rfl ?_
  intro w5 g5 H5 hg5
  refine ops_nil ?_
  refine ⟨fun hne => H5.pick [0, 1, 2, 3] (by decide), ?_⟩
  change MixZ _ _ _ _ _ _ [_, _, _, _, _, _, _, _, _, _, _, _, _, _, _, _, _, _, _, _, _, _, _, _, _, _, _, _, _, _, _, _, _, _] _
  refine mixz_o rfl ?_
  refine ops_call (ex_call gf71 rfl) (HS.grp (q := 3) (ptext_R gp gr gb cb sb b hcb hbl) (by decide) H5 (by decide) (show o + 3 + 2 ≤ _ by omega) (At.cast (hat.trans (At.sub _ 3 2)) rfl) rfl rfl) ?_
  rintro _ w6 ⟨us, i1, e1, HS⟩
  replace HS := HS.join1
  have H6 := HS.H.here
  refine ops_nil ?_
  refine ⟨fun hne => absurd rfl hne, ?_⟩
  change MixZ _ _ _ _ _ _ [_, _, _, _, _, _, _, _, _, _, _, _, _, _, _, _, _, _, _, _, _, _, _, _, _, _, _, _, _, _, _, _, _, _] _
  refine mixz_nil ?_
  change Run _ _ _ _ [_, _, _, _, _, _, _, _, _, _, _, _, _, _, _, _, _, _, _, _, _, _, _, _, _, _, _, _, _, _, _, _, _, _] _
  refine run_mixZ 8 [(true, 0), (true, 1), (true, 2), (true, 3), (true, 4), (true, 5), (true, 6), (false, 7), (false, 8)] H6 [0, 1, 2, 3] mixed (by decide) (by kernel_rfl) ?_
  rintro w7 hw7
  have H7 := Hp.drew H6; rw [← hw7] at H7
  refine mixz_p rfl ?_
  refine mix1_val (fun wz hz => ex_move rfl) ?_
  refine mixz_p rfl ?_
  refine mix1_val (fun wz hz => ex_move rfl) ?_
  refine mixz_p rfl ?_
  refine mix1_val (fun wz hz => ex_nilCheck rfl) ?_
  change MixZ _ _ _ _ _ _ [_, _, _, _, _, _, _, _, _, _, _, _, _, _, _, _, _, _, _, _, _, _, _, _, _, _, _, _, _, _, _, _, _, _] _
  refine mixz_p rfl ?_
  refine mix1_val (fun wz hz => ex_fieldAddr fl25_5 rfl) ?_
  refine mixz_p rfl ?_
  refine mix1_val (fun wz hz => ex_move rfl) ?_
  refine mixz_p rfl ?_
  refine mix1_val (fun wz hz => ex_nilCheck rfl) ?_
  change MixZ _ _ _ _ _ _ [_, _, _, _, _, _, _, _, _, _, _, _, _, _, _, _, _, _, _, _, _, _, _, _, _, _, _, _, _, _, _, _, _, _] _
  refine mixz_p rfl ?_
  refine mix1_val (fun wz hz => ex_fieldAddr fl25_6 rfl) ?_
  refine mixz_o rfl ?_
  refine ops_buildSlice Try.underlying177 ty126 H7 rfl (by decide) rfl ?_
  intro w8 g8 H8 hg8
  refine ops_nil ?_
  refine ⟨fun hne => H8.pick [0, 1, 2, 3] (by decide), ?_⟩
  change MixZ _ _ _ _ _ _ [_, _, _, _, _, _, _, _, _, _, _, _, _, _, _, _, _, _, _, _, _, _, _, _, _, _, _, _, _, _, _, _, _, _] _
  refine mixz_o rfl ?_
  refine ops_call (ex_call gf61 rfl) (HS.grp (q := 5) (pint_R gp gr gb cb sb b hcb hbl) (by decide) H8 (by decide) (show o + 5 + 2 ≤ _ by omega) (At.cast (hat.trans (At.sub _ 5 2)) rfl) rfl rfl) ?_
  rintro _ w9 ⟨us, i1, e1, HS⟩
  replace HS := HS.join1
  have H9 := HS.H.here
  refine ops_nil ?_
  refine ⟨fun hne => absurd rfl hne, ?_⟩
  change MixZ _ _ _ _ _ _ [_, _, _, _, _, _, _, _, _, _, _, _, _, _, _, _, _, _, _, _, _, _, _, _, _, _, _, _, _, _, _, _, _, _] _
  refine mixz_nil ?_
  change Run _ _ _ _ [_, _, _, _, _, _, _, _, _, _, _, _, _, _, _, _, _, _, _, _, _, _, _, _, _, _, _, _, _, _, _, _, _, _] _
  refine run_nil ?_
  refine fin_end0 rfl ?_
  exact HS.out
theorem pplan_R : PenR Try.prog 74 thplan := pplan_r
set_option maxRecDepth 100000 in
set_option maxHeartbeats 4000000 in
theorem pcommand_w (gp : Nat) (g : Option Nat) (cap : Nat) (sp : List Value) (st : WS) (a : Addr) (x : thcommand.X) (vs : List Value) (w0 : World) (H0 : Hp w0 w0 (bl (pw gp g cap sp st)) (pw gp g cap sp st)) (hP : POk 65536 g cap sp st) (hM : thcommand.M w0 (fun b => b ∉ bl (pw gp g cap sp st)) x vs) (hC : Cl w0 (bl (pw gp g cap sp st)) a vs) (htw : false = true → Thawed w0 a) :
    Does Try.prog 40 #[.pointer (some ⟨gp, 0, none⟩), .pointer (some a)] w0 (fun _ w' => PwOut gp (wAll (thcommand.fl x) st) w0 (bl (pw gp g cap sp st)) w') := by
  refine does_of Try.func40 Try.ntmps40 rfl ?_
  change Run _ _ _ _ [.pointer (some ⟨gp, 0, none⟩), .pointer (some a), undef, undef, undef, undef, undef, undef, undef, undef, undef, undef, undef, undef, undef, undef, undef, undef, undef, undef, undef, undef, undef, undef, undef, undef, undef, undef, undef, undef, undef, undef, undef, undef, undef, undef, undef, undef, undef, undef, undef, undef, undef, undef, undef, undef, undef, undef, undef, undef, undef, undef, undef, undef, undef, undef, undef, undef, undef, undef, undef, undef, undef] _
  have HS : WSt false gp a w0 (bl (pw gp g cap sp st)) w0 st thcommand x vs g cap sp := ⟨H0, hP, hM, hC, fun h => ⟨htw h, by have hl := thcommand.len hM; change vs.length = 25 at hl; omega⟩⟩
  have H := HS.H.here
  refine run_seq ?_
  refine run_mixZ 20 [(true, 0), (true, 1), (true, 2), (true, 3), (true, 4), (true, 5), (true, 6), (true, 7), (true, 8), (true, 9), (true, 10), (true, 11), (true, 12), (true, 13), (true, 14), (true, 15), (true, 16), (true, 17), (true, 18), (false, 19), (false, 20)] H [0, 1] mixed (by decide) (by kernel_rfl) ?_
  rintro w1 hw1
  have H1 := Hp.drew H; rw [← hw1] at H1
  refine mixz_p rfl ?_
  refine mix1_val (fun wz hz => ex_move rfl) ?_
  refine mixz_p rfl ?_
  refine mix1_val (fun wz hz => ex_move rfl) ?_
  refine mixz_p rfl ?_
  refine mix1_val (fun wz hz => ex_nilCheck rfl) ?_
  change MixZ _ _ _ _ _ _ [_, _, _, _, _, _, _, _, _, _, _, _, _, _, _, _, _, _, _, _, _, _, _, _, _, _, _, _, _, _, _, _, _, _, _, _, _, _, _, _, _, _, _, _, _, _, _, _, _, _, _, _, _, _, _, _, _, _, _, _, _, _, _] _
  refine mixz_p rfl ?_
  refine mix1_val (fun wz hz => ex_fieldAddrA fl28_0 rfl) ?_
  refine mixz_p rfl ?_
  refine mix1_val (fun wz hz => ex_move rfl) ?_
  refine mixz_p rfl ?_
  refine mix1_val (fun wz hz => ex_nilCheck rfl) ?_
  change MixZ _ _ _ _ _ _ [_, _, _, _, _, _, _, _, _, _, _, _, _, _, _, _, _, _, _, _, _, _, _, _, _, _, _, _, _, _, _, _, _, _, _, _, _, _, _, _, _, _, _, _, _, _, _, _, _, _, _, _, _, _, _, _, _, _, _, _, _, _, _] _
  refine mixz_p rfl ?_
  refine mix1_val (fun wz hz => ex_fieldAddrA fl28_1 rfl) ?_
  refine mixz_p rfl ?_
  refine mix1_val (fun wz hz => ex_move rfl) ?_
  refine mixz_p rfl ?_
  refine mix1_val (fun wz hz => ex_nilCheck rfl) ?_
  change MixZ _ _ _ _ _ _ [_, _, _, _, _, _, _, _, _, _, _, _, _, _, _, _, _, _, _, _, _, _, _, _, _, _, _, _, _, _, _, _, _, _, _, _, _, _, _, _, _, _, _, _, _, _, _, _, _, _, _, _, _, _, _, _, _, _, _, _, _, _, _] _
  refine mixz_p rfl ?_
  refine mix1_val (fun wz hz => ex_fieldAddrA fl28_2 rfl) ?_
  refine mixz_p rfl ?_
  refine mix1_val (fun wz hz => ex_move rfl) ?_
  refine mixz_p rfl ?_
  refine mix1_val (fun wz hz => ex_nilCheck rfl) ?_
  change MixZ _ _ _ _ _ _ [_, _, _, _, _, _, _, _, _, _, _, _, _, _, _, _, _, _, _, _, _, _, _, _, _, _, _, _, _, _, _, _, _, _, _, _, _, _, _, _, _, _, _, _, _, _, _, _, _, _, _, _, _, _, _, _, _, _, _, _, _, _, _] _
  refine mixz_p rfl ?_
  refine mix1_val (fun wz hz => ex_fieldAddrA fl28_3 rfl) ?_
  refine mixz_p rfl ?_
  refine mix1_val (fun wz hz => ex_move rfl) ?_
  refine mixz_p rfl ?_
  refine mix1_val (fun wz hz => ex_nilCheck rfl) ?_
  change MixZ _ _ _ _ _ _ [_, _, _, _, _, _, _, _, _, _, _, _, _, _, _, _, _, _, _, _, _, _, _, _, _, _, _, _, _, _, _, _, _, _, _, _, _, _, _, _, _, _, _, _, _, _, _, _, _, _, _, _, _, _, _, _, _, _, _, _, _, _, _] _
  refine mixz_p rfl ?_
  refine mix1_val (fun wz hz => ex_fieldAddrA fl28_4 rfl) ?_
  refine mixz_p rfl ?_
  refine mix1_val (fun wz hz => ex_move rfl) ?_
  refine mixz_p rfl ?_
  refine mix1_val (fun wz hz => ex_nilCheck rfl) ?_
  change MixZ _ _ _ _ _ _ [_, _, _, _, _, _, _, _, _, _, _, _, _, _, _, _, _, _, _, _, _, _, _, _, _, _, _, _, _, _, _, _, _, _, _, _, _, _, _, _, _, _, _, _, _, _, _, _, _, _, _, _, _, _, _, _, _, _, _, _, _, _, _] _
  refine mixz_p rfl ?_
  refine mix1_val (fun wz hz => ex_fieldAddrA fl28_5 rfl) ?_
  refine mixz_o rfl ?_
  refine ops_buildSlice Try.underlying177 ty126 H1 rfl (by decide) rfl ?_
  intro w2 g2 H2 hg2
  refine ops_nil ?_
  refine ⟨fun hne => H2.pick [0, 1] (by decide), ?_⟩
  change MixZ _ _ _ _ _ _ [_, _, _, _, _, _, _, _, _, _, _, _, _, _, _, _, _, _, _, _, _, _, _, _, _, _, _, _, _, _, _, _, _, _, _, _, _, _, _, _, _, _, _, _, _, _, _, _, _, _, _, _, _, _, _, _, _, _, _, _, _, _, _] _
  refine mixz_o rfl ?_
  refine ops_call (ex_call gf61 rfl) (HS.grp (o := 0) pint_W H2 (by decide) (fun _ _ hM => (Th.part hM 0 6)) (At.cast (At.trans (At.self _) (At.sub _ 0 6)) (by decide))) ?_
  rintro _ w3 ⟨g, cap, sp, HS⟩
  have H3 := HS.H.here
  refine ops_nil ?_
  refine ⟨fun hne => absurd rfl hne, ?_⟩
  change MixZ _ _ _ _ _ _ [_, _, _, _, _, _, _, _, _, _, _, _, _, _, _, _, _, _, _, _, _, _, _, _, _, _, _, _, _, _, _, _, _, _, _, _, _, _, _, _, _, _, _, _, _, _, _, _, _, _, _, _, _, _, _, _, _, _, _, _, _, _, _] _
  refine mixz_nil ?_
  change Run _ _ _ _ [_, _, _, _, _, _, _, _, _, _, _, _, _, _, _, _, _, _, _, _, _, _, _, _, _, _, _, _, _, _, _, _, _, _, _, _, _, _, _, _, _, _, _, _, _, _, _, _, _, _, _, _, _, _, _, _, _, _, _, _, _, _, _] _
  refine run_seq ?_
  refine run_region ?_
  refine ops_val (ex_move rfl) ?_
  refine ops_val (ex_move rfl) ?_
  refine ops_val (ex_nilCheck rfl) ?_
  change Ops _ _ _ _ _ _ [_, _, _, _, _, _, _, _, _, _, _, _, _, _, _, _, _, _, _, _, _, _, _, _, _, _, _, _, _, _, _, _, _, _, _, _, _, _, _, _, _, _, _, _, _, _, _, _, _, _, _, _, _, _, _, _, _, _, _, _, _, _, _] _
  refine ops_val (ex_fieldAddrA fl28_6 rfl) ?_
  refine ops_buildSlice Try.underlying217 ty140 H3 rfl (by decide) rfl ?_
  intro w4 g4 H4 hg4
  refine ops_call (ex_call gf71 rfl) (HS.grp (o := 6) ptext_W H4 (by decide) (fun _ _ hM => (Th.part hM 6 1)) (At.cast (At.trans (At.self _) (At.sub _ 6 1)) (by decide))) ?_
  rintro _ w5 ⟨g, cap, sp, HS⟩
  have H5 := HS.H.here
  refine ops_nil ?_
  change Run _ _ _ _ [_, _, _, _, _, _, _, _, _, _, _, _, _, _, _, _, _, _, _, _, _, _, _, _, _, _, _, _, _, _, _, _, _, _, _, _, _, _, _, _, _, _, _, _, _, _, _, _, _, _, _, _, _, _, _, _, _, _, _, _, _, _, _] _
  refine run_seq ?_
  refine run_mixZ 11 [(true, 0), (true, 1), (true, 2), (true, 3), (true, 4), (true, 5), (true, 6), (true, 7), (true, 8), (true, 9), (false, 10), (false, 11)] H5 [0, 1] mixed (by decide) (by kernel_rfl) ?_
  rintro w6 hw6
  have H6 := Hp.drew H5; rw [← hw6] at H6
  refine mixz_p rfl ?_
  refine mix1_val (fun wz hz => ex_move rfl) ?_
  refine mixz_p rfl ?_
  refine mix1_val (fun wz hz => ex_move rfl) ?_
  refine mixz_p rfl ?_
  refine mix1_val (fun wz hz => ex_nilCheck rfl) ?_
  change MixZ _ _ _ _ _ _ [_, _, _, _, _, _, _, _, _, _, _, _, _, _, _, _, _, _, _, _, _, _, _, _, _, _, _, _, _, _, _, _, _, _, _, _, _, _, _, _, _, _, _, _, _, _, _, _, _, _, _, _, _, _, _, _, _, _, _, _, _, _, _] _
  refine mixz_p rfl ?_
  refine mix1_val (fun wz hz => ex_fieldAddrA fl28_7 rfl) ?_
  refine mixz_p rfl ?_
  refine mix1_val (fun wz hz => ex_move rfl) ?_
  refine mixz_p rfl ?_
  refine mix1_val (fun wz hz => ex_nilCheck rfl) ?_
  change MixZ _ _ _ _ _ _ [_, _, _, _, _, _, _, _, _, _, _, _, _, _, _, _, _, _, _, _, _, _, _, _, _, _, _, _, _, _, _, _, _, _, _, _, _, _, _, _, _, _, _, _, _, _, _, _, _, _, _, _, _, _, _, _, _, _, _, _, _, _, _] _
  refine mixz_p rfl ?_
  refine mix1_val (fun wz hz => ex_fieldAddrA fl28_8 rfl) ?_
  refine mixz_p rfl ?_
  refine mix1_val (fun wz hz => ex_move rfl) ?_
  refine mixz_p rfl ?_
  refine mix1_val (fun wz hz => ex_nilCheck rfl) ?_
  change MixZ _ _ _ _ _ _ [_, _, _, _, _, _, _, _, _, _, _, _, _, _, _, _, _, _, _, _, _, _, _, _, _, _, _, _, _, _, _, _, _, _, _, _, _, _, _, _, _, _, _, _, _, _, _, _, _, _, _, _, _, _, _, _, _, _, _, _, _, _, _] _
  refine mixz_p rfl ?_
  refine mix1_val (fun wz hz => ex_fieldAddrA fl28_9 rfl) ?_
  refine mixz_o rfl ?_
  refine ops_buildSlice Try.underlying177 ty126 H6 rfl (by decide) rfl ?_
  intro w7 g7 H7 hg7
  refine ops_nil ?_
  refine ⟨fun hne => H7.pick [0, 1] (by decide), ?_⟩
  change MixZ _ _ _ _ _ _ [_, _, _, _, _, _, _, _, _, _, _, _, _, _, _, _, _, _, _, _, _, _, _, _, _, _, _, _, _, _, _, _, _, _, _, _, _, _, _, _, _, _, _, _, _, _, _, _, _, _, _, _, _, _, _, _, _, _, _, _, _, _, _] _
  refine mixz_o rfl ?_
  refine ops_call (ex_call gf61 rfl) (HS.grp (o := 7) pint_W H7 (by decide) (fun _ _ hM => (Th.part hM 7 3)) (At.cast (At.trans (At.self _) (At.sub _ 7 3)) (by decide))) ?_
  rintro _ w8 ⟨g, cap, sp, HS⟩
  have H8 := HS.H.here
  refine ops_nil ?_
  refine ⟨fun hne => absurd rfl hne, ?_⟩
  change MixZ _ _ _ _ _ _ [_, _, _, _, _, _, _, _, _, _, _, _, _, _, _, _, _, _, _, _, _, _, _, _, _, _, _, _, _, _, _, _, _, _, _, _, _, _, _, _, _, _, _, _, _, _, _, _, _, _, _, _, _, _, _, _, _, _, _, _, _, _, _] _
  refine mixz_nil ?_
  change Run _ _ _ _ [_, _, _, _, _, _, _, _, _, _, _, _, _, _, _, _, _, _, _, _, _, _, _, _, _, _, _, _, _, _, _, _, _, _, _, _, _, _, _, _, _, _, _, _, _, _, _, _, _, _, _, _, _, _, _, _, _, _, _, _, _, _, _] _
  refine run_seq ?_
  refine run_region ?_
  refine ops_val (ex_move rfl) ?_
  refine ops_val (ex_move rfl) ?_
  refine ops_val (ex_nilCheck rfl) ?_
  change Ops _ _ _ _ _ _ [_, _, _, _, _, _, _, _, _, _, _, _, _, _, _, _, _, _, _, _, _, _, _, _, _, _, _, _, _, _, _, _, _, _, _, _, _, _, _, _, _, _, _, _, _, _, _, _, _, _, _, _, _, _, _, _, _, _, _, _, _, _, _] _
  refine ops_val (ex_fieldAddrA fl28_10 rfl) ?_
  refine ops_call (ex_call gf72 rfl) (HS.one (o := 10) pflag_W (by decide) (fun _ _ hM => (Th.part hM 10 1)) (At.cast (At.trans (At.self _) (At.sub _ 10 1)) (by decide))) ?_
  rintro _ w9 ⟨g, cap, sp, HS⟩
  have H9 := HS.H.here
  refine ops_nil ?_
  change Run _ _ _ _ [_, _, _, _, _, _, _, _, _, _, _, _, _, _, _, _, _, _, _, _, _, _, _, _, _, _, _, _, _, _, _, _, _, _, _, _, _, _, _, _, _, _, _, _, _, _, _, _, _, _, _, _, _, _, _, _, _, _, _, _, _, _, _] _
  refine run_seq ?_
  refine run_region ?_
  refine ops_val (ex_move rfl) ?_
  refine ops_val (ex_move rfl) ?_
  refine ops_val (ex_nilCheck rfl) ?_
  change Ops _ _ _ _ _ _ [_, _, _, _, _, _, _, _, _, _, _, _, _, _, _, _, _, _, _, _, _, _, _, _, _, _, _, _, _, _, _, _, _, _, _, _, _, _, _, _, _, _, _, _, _, _, _, _, _, _, _, _, _, _, _, _, _, _, _, _, _, _, _] _
  refine ops_val (ex_fieldAddrA fl28_11 rfl) ?_
  refine ops_call (ex_call gf73 rfl) (HS.one (o := 11) pop_W (by decide) (fun _ _ hM => (Th.part hM 11 6)) (At.cast (At.trans (At.self _) (At.sub _ 11 6)) (by decide))) ?_
  rintro _ w10 ⟨g, cap, sp, HS⟩
  have H10 := HS.H.here
  refine ops_nil ?_
  change Run _ _ _ _ [_, _, _, _, _, _, _, _, _, _, _, _, _, _, _, _, _, _, _, _, _, _, _, _, _, _, _, _, _, _, _, _, _, _, _, _, _, _, _, _, _, _, _, _, _, _, _, _, _, _, _, _, _, _, _, _, _, _, _, _, _, _, _] _
  refine run_seq ?_
  refine run_region ?_
  refine ops_val (ex_move rfl) ?_
  refine ops_val (ex_move rfl) ?_
  refine ops_val (ex_nilCheck rfl) ?_
  change Ops _ _ _ _ _ _ [_, _, _, _, _, _, _, _, _, _, _, _, _, _, _, _, _, _, _, _, _, _, _, _, _, _, _, _, _, _, _, _, _, _, _, _, _, _, _, _, _, _, _, _, _, _, _, _, _, _, _, _, _, _, _, _, _, _, _, _, _, _, _] _
  refine ops_val (ex_fieldAddrA fl28_12 rfl) ?_
  refine ops_call (ex_call gf74 rfl) (HS.one (o := 17) pplan_W (by decide) (fun _ _ hM => (Th.part hM 17 7)) (At.cast (At.trans (At.self _) (At.sub _ 17 7)) (by decide))) ?_
  rintro _ w11 ⟨g, cap, sp, HS⟩
  have H11 := HS.H.here
  refine ops_nil ?_
  change Run _ _ _ _ [_, _, _, _, _, _, _, _, _, _, _, _, _, _, _, _, _, _, _, _, _, _, _, _, _, _, _, _, _, _, _, _, _, _, _, _, _, _, _, _, _, _, _, _, _, _, _, _, _, _, _, _, _, _, _, _, _, _, _, _, _, _, _] _
  refine run_region ?_
  refine ops_val (ex_move rfl) ?_
  refine ops_val (ex_move rfl) ?_
  refine ops_val (ex_nilCheck rfl) ?_
  change Ops _ _ _ _ _ _ [_, _, _, _, _, _, _, _, _, _, _, _, _, _, _, _, _, _, _, _, _, _, _, _, _, _, _, _, _, _, _, _, _, _, _, _, _, _, _, _, _, _, _, _, _, _, _, _, _, _, _, _, _, _, _, _, _, _, _, _, _, _, _] _
  refine ops_val (ex_fieldAddrA fl28_13 rfl) ?_
  refine ops_call (ex_call gf75 rfl) (HS.one (o := 24) pbytes_W (by decide) (fun _ _ hM => (Th.part hM 24 1)) (At.cast (At.trans (At.self _) (At.sub _ 24 1)) (by decide))) ?_
  rintro _ w12 ⟨g, cap, sp, HS⟩
  have H12 := HS.H.here
  refine ops_nil ?_
  change Run _ _ _ _ [_, _, _, _, _, _, _, _, _, _, _, _, _, _, _, _, _, _, _, _, _, _, _, _, _, _, _, _, _, _, _, _, _, _, _, _, _, _, _, _, _, _, _, _, _, _, _, _, _, _, _, _, _, _, _, _, _, _, _, _, _, _, _] _
  refine run_nil ?_
  refine fin_end0 rfl ?_
  have hw0 : List.take 25 x = x := Th.whole hM
  refine HS.out ?_
  show _ = wAll (x) st
  simp only [List.drop_zero, wAll_part, wAll_append, Nat.reduceAdd, hw0]
theorem pcommand_W : PenW Try.prog 40 thcommand false := pcommand_w
set_option maxRecDepth 100000 in
set_option maxHeartbeats 4000000 in
theorem pcommand_r (gp gr : Nat) (gb : Option Nat) (cb : Nat) (sb : List Value) (b : List UInt8) (hcb : b.length ≤ cb) (hbl : b.length ≤ 65536) (go o i e : Nat) (U : TypeId) (cs : List Value) (w0 : World) (H0 : Hp w0 w0 (bl (pr gp gr gb cb sb b i e ++ [(some go, U, cs)])) (pr gp gr gb cb sb b i e ++ [(some go, U, cs)])) (hi : i ≤ b.length) (hat : At cs o thcommand.zs) (hfit : o + thcommand.sz ≤ cs.length) :
    Does Try.prog 40 #[.pointer (some ⟨gp, 0, none⟩), .pointer (some ⟨go, o, none⟩)] w0 (fun _ w' => RdOut (pr gp gr gb cb sb b) thcommand go o U cs b i e w0.heap.size w0 (bl (pr gp gr gb cb sb b i e ++ [(some go, U, cs)])) w') := by
  refine does_of Try.func40 Try.ntmps40 rfl ?_
  change Run _ _ _ _ [.pointer (some ⟨gp, 0, none⟩), .pointer (some ⟨go, o, none⟩), undef, undef, undef, undef, undef, undef, undef, undef, undef, undef, undef, undef, undef, undef, undef, undef, undef, undef, undef, undef, undef, undef, undef, undef, undef, undef, undef, undef, undef, undef, undef, undef, undef, undef, undef, undef, undef, undef, undef, undef, undef, undef, undef, undef, undef, undef, undef, undef, undef, undef, undef, undef, undef, undef, undef, undef, undef, undef, undef, undef, undef] _
  change o + 25 ≤ cs.length at hfit
  have HS := RSt.start (R := pr gp gr gb cb sb b) (o := o) H0 hi
  have H := HS.H.here
  refine run_seq ?_
  refine run_mixZ 20 [(true, 0), (true, 1), (true, 2), (true, 3), (true, 4), (true, 5), (true, 6), (true, 7), (true, 8), (true, 9), (true, 10), (true, 11), (true, 12), (true, 13), (true, 14), (true, 15), (true, 16), (true, 17), (true, 18), (false, 19), (false, 20)] H [0, 1, 2, 3] mixed (by decide) (by kernel_rfl) ?_
  rintro w1 hw1
  have H1 := Hp.drew H; rw [← hw1] at H1
  refine mixz_p rfl ?_
  refine mix1_val (fun wz hz => ex_move rfl) ?_
  refine mixz_p rfl ?_
  refine mix1_val (fun wz hz => ex_move rfl) ?_
  refine mixz_p rfl ?_
  refine mix1_val (fun wz hz => ex_nilCheck rfl) ?_
  change MixZ _ _ _ _ _ _ [_, _, _, _, _, _, _, _, _, _, _, _, _, _, _, _, _, _, _, _, _, _, _, _, _, _, _, _, _, _, _, _, _, _, _, _, _, _, _, _, _, _, _, _, _, _, _, _, _, _, _, _, _, _, _, _, _, _, _, _, _, _, _] _
  refine mixz_p rfl ?_
  refine mix1_val (fun wz hz => ex_fieldAddr fl28_0 rfl) ?_
  refine mixz_p rfl ?_
  refine mix1_val (fun wz hz => ex_move rfl) ?_
  refine mixz_p rfl ?_
  refine mix1_val (fun wz hz => ex_nilCheck rfl) ?_
  change MixZ _ _ _ _ _ _ [_, _, _, _, _, _, _, _, _, _, _, _, _, _, _, _, _, _, _, _, _, _, _, _, _, _, _, _, _, _, _, _, _, _, _, _, _, _, _, _, _, _, _, _, _, _, _, _, _, _, _, _, _, _, _, _, _, _, _, _, _, _, _] _
  refine mixz_p rfl ?_
  refine mix1_val (fun wz hz => ex_fieldAddr fl28_1 rfl) ?_
  refine mixz_p rfl ?_
  refine mix1_val (fun wz hz => ex_move rfl) ?_
  refine mixz_p rfl ?_
  refine mix1_val (fun wz hz => ex_nilCheck rfl) ?_
  change MixZ _ _ _ _ _ _ [_, _, _, _, _, _, _, _, _, _, _, _, _, _, _, _, _, _, _, _, _, _, _, _, _, _, _, _, _, _, _, _, _, _, _, _, _, _, _, _, _, _, _, _, _, _, _, _, _, _, _, _, _, _, _, _, _, _, _, _, _, _, _] _
  refine mixz_p rfl ?_
  refine mix1_val (fun wz hz => ex_fieldAddr fl28_2 rfl) ?_
  refine mixz_p rfl ?_
  refine mix1_val (fun wz hz => ex_move rfl) ?_
  refine mixz_p rfl ?_
  refine mix1_val (fun wz hz => ex_nilCheck rfl) ?_
  change MixZ _ _ _ _ _ _ [_, _, _, _, _, _, _, _, _, _, _, _, _, _, _, _, _, _, _, _, _, _, _, _, _, _, _, _, _, _, _, _, _, _, _, _, _, _, _, _, _, _, _, _, _, _, _, _, _, _, _, _, _, _, _, _, _, _, _, _, _, _, _] _
  refine mixz_p rfl ?_
  refine mix1_val (fun wz hz => ex_fieldAddr fl28_3 rfl) ?_
  refine mixz_p rfl ?_
  refine mix1_val (fun wz hz => ex_move rfl) ?_
  refine mixz_p rfl ?_
  refine mix1_val (fun wz hz => ex_nilCheck rfl) ?_
  change MixZ _ _ _ _ _ _ [_, _, _, _, _, _, _, _, _, _, _, _, _, _, _, _, _, _, _, _, _, _, _, _, _, _, _, _, _, _, _, _, _, _, _, _, _, _, _, _, _, _, _, _, _, _, _, _, _, _, _, _, _, _, _, _, _, _, _, _, _, _, _] _
  refine mixz_p rfl ?_
  refine mix1_val (fun wz hz => ex_fieldAddr fl28_4 rfl) ?_
  refine mixz_p rfl ?_
  refine mix1_val (fun wz hz => ex_move rfl) ?_
  refine mixz_p rfl ?_
  refine mix1_val (fun wz hz => ex_nilCheck rfl) ?_
  change MixZ _ _ _ _ _ _ [_, _, _, _, _, _, _, _, _, _, _, _, _, _, _, _, _, _, _, _, _, _, _, _, _, _, _, _, _, _, _, _, _, _, _, _, _, _, _, _, _, _, _, _, _, _, _, _, _, _, _, _, _, _, _, _, _, _, _, _, _, _, _] _
  refine mixz_p rfl ?_
  refine mix1_val (fun wz hz => ex_fieldAddr fl28_5 rfl) ?_
  refine mixz_o rfl ?_
  refine ops_buildSlice Try.underlying177 ty126 H1 rfl (by decide) rfl ?_
  intro w2 g2 H2 hg2
  refine ops_nil ?_
  refine ⟨fun hne => H2.pick [0, 1, 2, 3] (by decide), ?_⟩
  change MixZ _ _ _ _ _ _ [_, _, _, _, _, _, _, _, _, _, _, _, _, _, _, _, _, _, _, _, _, _, _, _, _, _, _, _, _, _, _, _, _, _, _, _, _, _, _, _, _, _, _, _, _, _, _, _, _, _, _, _, _, _, _, _, _, _, _, _, _, _, _] _
  refine mixz_o rfl ?_
  refine ops_call (ex_call gf61 rfl) (HS.grp (q := 0) (pint_R gp gr gb cb sb b hcb hbl) (by decide) H2 (by decide) (show o + 0 + 6 ≤ _ by omega) (At.cast (hat.trans (At.sub _ 0 6)) rfl) rfl rfl) ?_
  rintro _ w3 ⟨us, i1, e1, HS⟩
  replace HS := HS.join1
  have H3 := HS.H.here
  refine ops_nil ?_
  refine ⟨fun hne => absurd rfl hne, ?_⟩
  change MixZ _ _ _ _ _ _ [_, _, _, _, _, _, _, _, _, _, _, _, _, _, _, _, _, _, _, _, _, _, _, _, _, _, _, _, _, _, _, _, _, _, _, _, _, _, _, _, _, _, _, _, _, _, _, _, _, _, _, _, _, _, _, _, _, _, _, _, _, _, _] _
  refine mixz_nil ?_
  change Run _ _ _ _ [_, _, _, _, _, _, _, _, _, _, _, _, _, _, _, _, _, _, _, _, _, _, _, _, _, _, _, _, _, _, _, _, _, _, _, _, _, _, _, _, _, _, _, _, _, _, _, _, _, _, _, _, _, _, _, _, _, _, _, _, _, _, _] _
  refine run_seq ?_
  refine run_region ?_
  refine ops_val (ex_move rfl) ?_
  refine ops_val (ex_move rfl) ?_
  refine ops_val (ex_nilCheck rfl) ?_
  change Ops _ _ _ _ _ _ [_, _, _, _, _, _, _, _, _, _, _, _, _, _, _, _, _, _, _, _, _, _, _, _, _, _, _, _, _, _, _, _, _, _, _, _, _, _, _, _, _, _, _, _, _, _, _, _, _, _, _, _, _, _, _, _, _, _, _, _, _, _, _] _
  refine ops_val (ex_fieldAddr fl28_6 rfl) ?_
  refine ops_buildSlice Try.underlying217 ty140 H3 rfl (by decide) rfl ?_
  intro w4 g4 H4 hg4
  refine ops_call (ex_call gf71 rfl) (HS.grp (q := 6) (ptext_R gp gr gb cb sb b hcb hbl) (by decide) H4 (by decide) (show o + 6 + 1 ≤ _ by omega) (At.cast (hat.trans (At.sub _ 6 1)) rfl) rfl rfl) ?_
  rintro _ w5 ⟨us, i1, e1, HS⟩
  replace HS := HS.join1
  have H5 := HS.H.here
  refine ops_nil ?_
  change Run _ _ _ _ [_, _, _, _, _, _, _, _, _, _, _, _, _, _, _, _, _, _, _, _, _, _, _, _, _, _, _, _, _, _, _, _, _, _, _, _, _, _, _, _, _, _, _, _, _, _, _, _, _, _, _, _, _, _, _, _, _, _, _, _, _, _, _] _
  refine run_seq ?_
  refine run_mixZ 11 [(true, 0), (true, 1), (true, 2), (true, 3), (true, 4), (true, 5), (true, 6), (true, 7), (true, 8), (true, 9), (false, 10), (false, 11)] H5 [0, 1, 2, 3] mixed (by decide) (by kernel_rfl) ?_
  rintro w6 hw6
  have H6 := Hp.drew H5; rw [← hw6] at H6
  refine mixz_p rfl ?_
  refine mix1_val (fun wz hz => ex_move rfl) ?_
  refine mixz_p rfl ?_
  refine mix1_val (fun wz hz => ex_move rfl) ?_
  refine mixz_p rfl ?_
  refine mix1_val (fun wz hz => ex_nilCheck rfl) ?_
  change MixZ _ _ _ _ _ _ [_, _, _, _, _, _, _, _, _, _, _, _, _, _, _, _, _, _, _, _, _, _, _, _, _, _, _, _, _, _, _, _, _, _, _, _, _, _, _, _, _, _, _, _, _, _, _, _, _, _, _, _, _, _, _, _, _, _, _, _, _, _, _] _
  refine mixz_p rfl ?_
  refine mix1_val (fun wz hz => ex_fieldAddr fl28_7 rfl) ?_
  refine mixz_p rfl ?_
  refine mix1_val (fun wz hz => ex_move rfl) ?_
  refine mixz_p rfl ?_
  refine mix1_val (fun wz hz => ex_nilCheck rfl) ?_
  change MixZ _ _ _ _ _ _ [_, _, _, _, _, _, _, _, _, _, _, _, _, _, _, _, _, _, _, _, _, _, _, _, _, _, _, _, _, _, _, _, _, _, _, _, _, _, _, _, _, _, _, _, _, _, _, _, _, _, _, _, _, _, _, _, _, _, _, _, _, _, _] _
  refine mixz_p rfl ?_
  refine mix1_val (fun wz hz => ex_fieldAddr fl28_8 rfl) ?_
  refine mixz_p rfl ?_
  refine mix1_val (fun wz hz => ex_move rfl) ?_
  refine mixz_p rfl ?_
  refine mix1_val (fun wz hz => ex_nilCheck rfl) ?_
  change MixZ _ _ _ _ _ _ [_, _, _, _, _, _, _, _, _, _, _, _, _, _, _, _, _, _, _, _, _, _, _, _, _, _, _, _, _, _, _, _, _, _, _, _, _, _, _, _, _, _, _, _, _, _, _, _, _, _, _, _, _, _, _, _, _, _, _, _, _, _, _] _
  refine mixz_p rfl ?_
  refine mix1_val (fun wz hz => ex_fieldAddr fl28_9 rfl) ?_
  refine mixz_o rfl ?_
  refine ops_buildSlice Try.underlying177 ty126 H6 rfl (by decide) rfl ?_
  intro w7 g7 H7 hg7
  refine ops_nil ?_
  refine ⟨fun hne => H7.pick [0, 1, 2, 3] (by decide), ?_⟩
  change MixZ _ _ _ _ _ _ [_, _, _, _, _, _, _, _, _, _, _, _, _, _, _, _, _, _, _, _, _, _, _, _, _, _, _, _, _, _, _, _, _, _, _, _, _, _, _, _, _, _, _, _, _, _, _, _, _, _, _, _, _, _, _, _, _, _, _, _, _, _, _] _
  refine mixz_o rfl ?_
  refine ops_call (ex_call gf61 rfl) (HS.grp (q := 7) (pint_R gp gr gb cb sb b hcb hbl) (by decide) H7 (by decide) (show o + 7 + 3 ≤ _ by omega) (At.cast (hat.trans (At.sub _ 7 3)) rfl) rfl rfl) ?_
  rintro _ w8 ⟨us, i1, e1, HS⟩
  replace HS := HS.join1
  have H8 := HS.H.here
  refine ops_nil ?_
  refine ⟨fun hne => absurd rfl hne, ?_⟩
  change MixZ _ _ _ _ _ _ [_, _, _, _, _, _, _, _, _, _, _, _, _, _, _, _, _, _, _, _, _, _, _, _, _, _, _, _, _, _, _, _, _, _, _, _, _, _, _, _, _, _, _, _, _, _, _, _, _, _, _, _, _, _, _, _, _, _, _, _, _, _, _] _
  refine mixz_nil ?_
  change Run _ _ _ _ [_, _, _, _, _, _, _, _, _, _, _, _, _, _, _, _, _, _, _, _, _, _, _, _, _, _, _, _, _, _, _, _, _, _, _, _, _, _, _, _, _, _, _, _, _, _, _, _, _, _, _, _, _, _, _, _, _, _, _, _, _, _, _] _
  refine run_seq ?_
  refine run_region ?_
  refine ops_val (ex_move rfl) ?_
  refine ops_val (ex_move rfl) ?_
  refine ops_val (ex_nilCheck rfl) ?_
  change Ops _ _ _ _ _ _ [_, _, _, _, _, _, _, _, _, _, _, _, _, _, _, _, _, _, _, _, _, _, _, _, _, _, _, _, _, _, _, _, _, _, _, _, _, _, _, _, _, _, _, _, _, _, _, _, _, _, _, _, _, _, _, _, _, _, _, _, _, _, _] _
  refine ops_val (ex_fieldAddr fl28_10 rfl) ?_
  refine ops_call (ex_call gf72 rfl) (HS.one (q := 10) (pflag_R gp gr gb cb sb b hcb hbl) (by decide) (show o + 10 + 1 ≤ _ by omega) (At.cast (hat.trans (At.sub _ 10 1)) rfl)) ?_
  rintro _ w9 ⟨us, i1, e1, HS⟩
  replace HS := HS.join1
  have H9 := HS.H.here
  refine ops_nil ?_
  change Run _ _ _ _ [_, _, _, _, _, _, _, _, _, _, _, _, _, _, _, _, _, _, _, _, _, _, _, _, _, _, _, _, _, _, _, _, _, _, _, _, _, _, _, _, _, _, _, _, _, _, _, _, _, _, _, _, _, _, _, _, _, _, _, _, _, _, _] _
  refine run_seq ?_
  refine run_region ?_
  refine ops_val (ex_move rfl) ?_
  refine ops_val (ex_move rfl) ?_
  refine ops_val (ex_nilCheck rfl) ?_
  change Ops _ _ _ _ _ _ [_, _, _, _, _, _, _, _, _, _, _, _, _, _, _, _, _, _, _, _, _, _, _, _, _, _, _, _, _, _, _, _, _, _, _, _, _, _, _, _, _, _, _, _, _, _, _, _, _, _, _, _, _, _, _, _, _, _, _, _, _, _, _] _
  refine ops_val (ex_fieldAddr fl28_11 rfl) ?_
  refine ops_call (ex_call gf73 rfl) (HS.one (q := 11) (pop_R gp gr gb cb sb b hcb hbl) (by decide) (show o + 11 + 6 ≤ _ by omega) (At.cast (hat.trans (At.sub _ 11 6)) rfl)) ?_
  rintro _ w10 ⟨us, i1, e1, HS⟩
  replace HS := HS.join1
  have H10 := HS.H.here
  refine ops_nil ?_
  change Run _ _ _ _ [_, _, _, _, _, _, _, _, _, _, _, _, _, _, _, _, _, _, _, _, _, _, _, _, _, _, _, _, _, _, _, _, _, _, _, _, _, _, _, _, _, _, _, _, _, _, _, _, _, _, _, _, _, _, _, _, _, _, _, _, _, _, _] _
  refine run_seq ?_
  refine run_region ?_
  refine ops_val (ex_move rfl) ?_
  refine ops_val (ex_move rfl) ?_
  refine ops_val (ex_nilCheck rfl) ?_
  change Ops _ _ _ _ _ _ [_, _, _, _, _, _, _, _, _, _, _, _, _, _, _, _, _, _, _, _, _, _, _, _, _, _, _, _, _, _, _, _, _, _, _, _, _, _, _, _, _, _, _, _, _, _, _, _, _, _, _, _, _, _, _, _, _, _, _, _, _, _, _] _
  refine ops_val (ex_fieldAddr fl28_12 rfl) ?_
  refine ops_call (ex_call gf74 rfl) (HS.one (q := 17) (pplan_R gp gr gb cb sb b hcb hbl) (by decide) (show o + 17 + 7 ≤ _ by omega) (At.cast (hat.trans (At.sub _ 17 7)) rfl)) ?_
  rintro _ w11 ⟨us, i1, e1, HS⟩
  replace HS := HS.join1
  have H11 := HS.H.here
  refine ops_nil ?_
  change Run _ _ _ _ [_, _, _, _, _, _, _, _, _, _, _, _, _, _, _, _, _, _, _, _, _, _, _, _, _, _, _, _, _, _, _, _, _, _, _, _, _, _, _, _, _, _, _, _, _, _, _, _, _, _, _, _, _, _, _, _, _, _, _, _, _, _, _] _
  refine run_region ?_
  refine ops_val (ex_move rfl) ?_
  refine ops_val (ex_move rfl) ?_
  refine ops_val (ex_nilCheck rfl) ?_
  change Ops _ _ _ _ _ _ [_, _, _, _, _, _, _, _, _, _, _, _, _, _, _, _, _, _, _, _, _, _, _, _, _, _, _, _, _, _, _, _, _, _, _, _, _, _, _, _, _, _, _, _, _, _, _, _, _, _, _, _, _, _, _, _, _, _, _, _, _, _, _] _
  refine ops_val (ex_fieldAddr fl28_13 rfl) ?_
  refine ops_call (ex_call gf75 rfl) (HS.one (q := 24) (pbytes_R gp gr gb cb sb b hcb hbl) (by decide) (show o + 24 + 1 ≤ _ by omega) (At.cast (hat.trans (At.sub _ 24 1)) rfl)) ?_
  rintro _ w12 ⟨us, i1, e1, HS⟩
  replace HS := HS.join1
  have H12 := HS.H.here
  refine ops_nil ?_
  change Run _ _ _ _ [_, _, _, _, _, _, _, _, _, _, _, _, _, _, _, _, _, _, _, _, _, _, _, _, _, _, _, _, _, _, _, _, _, _, _, _, _, _, _, _, _, _, _, _, _, _, _, _, _, _, _, _, _, _, _, _, _, _, _, _, _, _, _] _
  refine run_nil ?_
  refine fin_end0 rfl ?_
  exact HS.out
theorem pcommand_R : PenR Try.prog 40 thcommand := pcommand_r
set_option maxRecDepth 100000 in
set_option maxHeartbeats 4000000 in
theorem pholder_w (gp : Nat) (g : Option Nat) (cap : Nat) (sp : List Value) (st : WS) (a : Addr) (x : thholder.X) (vs : List Value) (w0 : World) (H0 : Hp w0 w0 (bl (pw gp g cap sp st)) (pw gp g cap sp st)) (hP : POk 65536 g cap sp st) (hM : thholder.M w0 (fun b => b ∉ bl (pw gp g cap sp st)) x vs) (hC : Cl w0 (bl (pw gp g cap sp st)) a vs) (htw : false = true → Thawed w0 a) :
    Does Try.prog 141 #[.pointer (some ⟨gp, 0, none⟩), .pointer (some a)] w0 (fun _ w' => PwOut gp (wAll (thholder.fl x) st) w0 (bl (pw gp g cap sp st)) w') := by
  refine does_of Try.func141 Try.ntmps141 rfl ?_
  change Run _ _ _ _ [.pointer (some ⟨gp, 0, none⟩), .pointer (some a), undef, undef, undef, undef, undef, undef, undef, undef, undef, undef, undef, undef, undef, undef, undef, undef, undef] _
  have HS : WSt false gp a w0 (bl (pw gp g cap sp st)) w0 st thholder x vs g cap sp := ⟨H0, hP, hM, hC, fun h => ⟨htw h, by have hl := thholder.len hM; change vs.length = 4 at hl; omega⟩⟩
  have H := HS.H.here
  refine run_mixZ 14 [(true, 0), (true, 1), (true, 2), (true, 3), (true, 4), (true, 5), (true, 6), (true, 7), (true, 8), (true, 9), (true, 10), (true, 11), (true, 12), (false, 13), (false, 14)] H [0, 1] mixed (by decide) (by kernel_rfl) ?_
  rintro w1 hw1
  have H1 := Hp.drew H; rw [← hw1] at H1
  refine mixz_p rfl ?_
  refine mix1_val (fun wz hz => ex_move rfl) ?_
  refine mixz_p rfl ?_
  refine mix1_val (fun wz hz => ex_move rfl) ?_
  refine mixz_p rfl ?_
  refine mix1_val (fun wz hz => ex_nilCheck rfl) ?_
  change MixZ _ _ _ _ _ _ [_, _, _, _, _, _, _, _, _, _, _, _, _, _, _, _, _, _, _] _
  refine mixz_p rfl ?_
  refine mix1_val (fun wz hz => ex_fieldAddrA fl240_0 rfl) ?_
  refine mixz_p rfl ?_
  refine mix1_val (fun wz hz => ex_move rfl) ?_
  refine mixz_p rfl ?_
  refine mix1_val (fun wz hz => ex_nilCheck rfl) ?_
  change MixZ _ _ _ _ _ _ [_, _, _, _, _, _, _, _, _, _, _, _, _, _, _, _, _, _, _] _
  refine mixz_p rfl ?_
  refine mix1_val (fun wz hz => ex_fieldAddrA fl240_1 rfl) ?_
  refine mixz_p rfl ?_
  refine mix1_val (fun wz hz => ex_move rfl) ?_
  refine mixz_p rfl ?_
  refine mix1_val (fun wz hz => ex_nilCheck rfl) ?_
  change MixZ _ _ _ _ _ _ [_, _, _, _, _, _, _, _, _, _, _, _, _, _, _, _, _, _, _] _
  refine mixz_p rfl ?_
  refine mix1_val (fun wz hz => ex_fieldAddrA fl240_2 rfl) ?_
  refine mixz_p rfl ?_
  refine mix1_val (fun wz hz => ex_move rfl) ?_
  refine mixz_p rfl ?_
  refine mix1_val (fun wz hz => ex_nilCheck rfl) ?_
  change MixZ _ _ _ _ _ _ [_, _, _, _, _, _, _, _, _, _, _, _, _, _, _, _, _, _, _] _
  refine mixz_p rfl ?_
  refine mix1_val (fun wz hz => ex_fieldAddrA fl240_3 rfl) ?_
  refine mixz_o rfl ?_
  refine ops_buildSlice Try.underlying177 ty126 H1 rfl (by decide) rfl ?_
  intro w2 g2 H2 hg2
  refine ops_nil ?_
  refine ⟨fun hne => H2.pick [0, 1] (by decide), ?_⟩
  change MixZ _ _ _ _ _ _ [_, _, _, _, _, _, _, _, _, _, _, _, _, _, _, _, _, _, _] _
  refine mixz_o rfl ?_
  refine ops_call (ex_call gf61 rfl) (HS.grp (o := 0) pint_W H2 (by decide) (fun _ _ hM => (Th.part hM 0 4)) (At.cast (At.trans (At.self _) (At.sub _ 0 4)) (by decide))) ?_
  rintro _ w3 ⟨g, cap, sp, HS⟩
  have H3 := HS.H.here
  refine ops_nil ?_
  refine ⟨fun hne => absurd rfl hne, ?_⟩
  change MixZ _ _ _ _ _ _ [_, _, _, _, _, _, _, _, _, _, _, _, _, _, _, _, _, _, _] _
  refine mixz_nil ?_
  change Run _ _ _ _ [_, _, _, _, _, _, _, _, _, _, _, _, _, _, _, _, _, _, _] _
  refine run_nil ?_
  refine fin_end0 rfl ?_
  have hw0 : List.take 4 x = x := Th.whole hM
  refine HS.out ?_
  show _ = wAll (x) st
  simp only [List.drop_zero, wAll_part, wAll_append, Nat.reduceAdd, hw0]
theorem pholder_W : PenW Try.prog 141 thholder false := pholder_w
set_option maxRecDepth 100000 in
set_option maxHeartbeats 4000000 in
theorem pholder_r (gp gr : Nat) (gb : Option Nat) (cb : Nat) (sb : List Value) (b : List UInt8) (hcb : b.length ≤ cb) (hbl : b.length ≤ 65536) (go o i e : Nat) (U : TypeId) (cs : List Value) (w0 : World) (H0 : Hp w0 w0 (bl (pr gp gr gb cb sb b i e ++ [(some go, U, cs)])) (pr gp gr gb cb sb b i e ++ [(some go, U, cs)])) (hi : i ≤ b.length) (hat : At cs o thholder.zs) (hfit : o + thholder.sz ≤ cs.length) :
    Does Try.prog 141 #[.pointer (some ⟨gp, 0, none⟩), .pointer (some ⟨go, o, none⟩)] w0 (fun _ w' => RdOut (pr gp gr gb cb sb b) thholder go o U cs b i e w0.heap.size w0 (bl (pr gp gr gb cb sb b i e ++ [(some go, U, cs)])) w') := by
  refine does_of Try.func141 Try.ntmps141 rfl ?_
  change Run _ _ _ _ [.pointer (some ⟨gp, 0, none⟩), .pointer (some ⟨go, o, none⟩), undef, undef, undef, undef, undef, undef, undef, undef, undef, undef, undef, undef, undef, undef, undef, undef, undef] _
  change o + 4 ≤ cs.length at hfit
  have HS := RSt.start (R := pr gp gr gb cb sb b) (o := o) H0 hi
  have H := HS.H.here
  refine run_mixZ 14 [(true, 0), (true, 1), (true, 2), (true, 3), (true, 4), (true, 5), (true, 6), (true, 7), (true, 8), (true, 9), (true, 10), (true, 11), (true, 12), (false, 13), (false, 14)] H [0, 1, 2, 3] mixed (by decide) (by kernel_rfl) ?_
  rintro w1 hw1
  have H1 := Hp.drew H; rw [← hw1] at H1
  refine mixz_p rfl ?_
  refine mix1_val (fun wz hz => ex_move rfl) ?_
  refine mixz_p rfl ?_
  refine mix1_val (fun wz hz => ex_move rfl) ?_
  refine mixz_p rfl ?_
  refine mix1_val (fun wz hz => ex_nilCheck rfl) ?_
  change MixZ _ _ _ _ _ _ [_, _, _, _, _, _, _, _, _, _, _, _, _, _, _, _, _, _, _] _
  refine mixz_p rfl ?_
  refine mix1_val (fun wz hz => ex_fieldAddr fl240_0 rfl) ?_
  refine mixz_p rfl ?_
  refine mix1_val (fun wz hz => ex_move rfl) ?_
  refine mixz_p rfl ?_
  refine mix1_val (fun wz hz => ex_nilCheck rfl) ?_
  change MixZ _ _ _ _ _ _ [_, _, _, _, _, _, _, _, _, _, _, _, _, _, _, _, _, _, _] _
  refine mixz_p rfl ?_
  refine mix1_val (fun wz hz => ex_fieldAddr fl240_1 rfl) ?_
  refine mixz_p rfl ?_
  refine mix1_val (fun wz hz => ex_move rfl) ?_
  refine mixz_p rfl ?_
  refine mix1_val (fun wz hz => ex_nilCheck rfl) ?_
  change MixZ _ _ _ _ _ _ [_, _, _, _, _, _, _, _, _, _, _, _, _, _, _, _, _, _, _] _
  refine mixz_p rfl ?_
  refine mix1_val (fun wz hz => ex_fieldAddr fl240_2 rfl) ?_
  refine mixz_p rfl ?_
  refine mix1_val (fun wz hz => ex_move rfl) ?_
  refine mixz_p rfl ?_
  refine mix1_val (fun wz hz => ex_nilCheck rfl) ?_
  change MixZ _ _ _ _ _ _ [_, _, _, _, _, _, _, _, _, _, _, _, _, _, _, _, _, _, _] _
  refine mixz_p rfl ?_
  refine mix1_val (fun wz hz => ex_fieldAddr fl240_3 rfl) ?_
  refine mixz_o rfl ?_
  refine ops_buildSlice Try.underlying177 ty126 H1 rfl (by decide) rfl ?_
  intro w2 g2 H2 hg2
  refine ops_nil ?_
  refine ⟨fun hne => H2.pick [0, 1, 2, 3] (by decide), ?_⟩
  change MixZ _ _ _ _ _ _ [_, _, _, _, _, _, _, _, _, _, _, _, _, _, _, _, _, _, _] _
  refine mixz_o rfl ?_
  refine ops_call (ex_call gf61 rfl) (HS.grp (q := 0) (pint_R gp gr gb cb sb b hcb hbl) (by decide) H2 (by decide) (show o + 0 + 4 ≤ _ by omega) (At.cast (hat.trans (At.sub _ 0 4)) rfl) rfl rfl) ?_
  rintro _ w3 ⟨us, i1, e1, HS⟩
  replace HS := HS.join1
  have H3 := HS.H.here
  refine ops_nil ?_
  refine ⟨fun hne => absurd rfl hne, ?_⟩
  change MixZ _ _ _ _ _ _ [_, _, _, _, _, _, _, _, _, _, _, _, _, _, _, _, _, _, _] _
  refine mixz_nil ?_
  change Run _ _ _ _ [_, _, _, _, _, _, _, _, _, _, _, _, _, _, _, _, _, _, _] _
  refine run_nil ?_
  refine fin_end0 rfl ?_
  exact HS.out
theorem pholder_R : PenR Try.prog 141 thholder := pholder_r
set_option maxRecDepth 100000 in
set_option maxHeartbeats 4000000 in
theorem pwait_w (gp : Nat) (g : Option Nat) (cap : Nat) (sp : List Value) (st : WS) (a : Addr) (x : thwait.X) (vs : List Value) (w0 : World) (H0 : Hp w0 w0 (bl (pw gp g cap sp st)) (pw gp g cap sp st)) (hP : POk 65536 g cap sp st) (hM : thwait.M w0 (fun b => b ∉ bl (pw gp g cap sp st)) x vs) (hC : Cl w0 (bl (pw gp g cap sp st)) a vs) (htw : false = true → Thawed w0 a) :
    Does Try.prog 115 #[.pointer (some ⟨gp, 0, none⟩), .pointer (some a)] w0 (fun _ w' => PwOut gp (wAll (thwait.fl x) st) w0 (bl (pw gp g cap sp st)) w') := by
  refine does_of Try.func115 Try.ntmps115 rfl ?_
  change Run _ _ _ _ [.pointer (some ⟨gp, 0, none⟩), .pointer (some a), undef, undef, undef, undef, undef, undef, undef, undef, undef, undef, undef, undef, undef, undef, undef, undef, undef, undef, undef, undef, undef, undef, undef, undef, undef] _
  have HS : WSt false gp a w0 (bl (pw gp g cap sp st)) w0 st thwait x vs g cap sp := ⟨H0, hP, hM, hC, fun h => ⟨htw h, by have hl := thwait.len hM; change vs.length = 11 at hl; omega⟩⟩
  have H := HS.H.here
  refine run_seq ?_
  refine run_mixZ 17 [(true, 0), (true, 1), (true, 2), (true, 3), (true, 4), (true, 5), (true, 6), (true, 7), (true, 8), (true, 9), (true, 10), (true, 11), (true, 12), (true, 13), (true, 14), (true, 15), (false, 16), (false, 17)] H [0, 1] mixed (by decide) (by kernel_rfl) ?_
  rintro w1 hw1
  have H1 := Hp.drew H; rw [← hw1] at H1
  refine mixz_p rfl ?_
  refine mix1_val (fun wz hz => ex_move rfl) ?_
  refine mixz_p rfl ?_
  refine mix1_val (fun wz hz => ex_move rfl) ?_
  refine mixz_p rfl ?_
  refine mix1_val (fun wz hz => ex_nilCheck rfl) ?_
  change MixZ _ _ _ _ _ _ [_, _, _, _, _, _, _, _, _, _, _, _, _, _, _, _, _, _, _, _, _, _, _, _, _, _, _] _
  refine mixz_p rfl ?_
  refine mix1_val (fun wz hz => ex_fieldAddrA fl204_0 rfl) ?_
  refine mixz_p rfl ?_
  refine mix1_val (fun wz hz => ex_move rfl) ?_
  refine mixz_p rfl ?_
  refine mix1_val (fun wz hz => ex_nilCheck rfl) ?_
  change MixZ _ _ _ _ _ _ [_, _, _, _, _, _, _, _, _, _, _, _, _, _, _, _, _, _, _, _, _, _, _, _, _, _, _] _
  refine mixz_p rfl ?_
  refine mix1_val (fun wz hz => ex_fieldAddrA fl204_1 rfl) ?_
  refine mixz_p rfl ?_
  refine mix1_val (fun wz hz => ex_move rfl) ?_
  refine mixz_p rfl ?_
  refine mix1_val (fun wz hz => ex_nilCheck rfl) ?_
  change MixZ _ _ _ _ _ _ [_, _, _, _, _, _, _, _, _, _, _, _, _, _, _, _, _, _, _, _, _, _, _, _, _, _, _] _
  refine mixz_p rfl ?_
  refine mix1_val (fun wz hz => ex_fieldAddrA fl204_2 rfl) ?_
  refine mixz_p rfl ?_
  refine mix1_val (fun wz hz => ex_move rfl) ?_
  refine mixz_p rfl ?_
  refine mix1_val (fun wz hz => ex_nilCheck rfl) ?_
  change MixZ _ _ _ _ _ _ [_, _, _, _, _, _, _, _, _, _, _, _, _, _, _, _, _, _, _, _, _, _, _, _, _, _, _] _
  refine mixz_p rfl ?_
  refine mix1_val (fun wz hz => ex_fieldAddrA fl204_3 rfl) ?_
  refine mixz_p rfl ?_
  refine mix1_val (fun wz hz => ex_move rfl) ?_
  refine mixz_p rfl ?_
  refine mix1_val (fun wz hz => ex_nilCheck rfl) ?_
  change MixZ _ _ _ _ _ _ [_, _, _, _, _, _, _, _, _, _, _, _, _, _, _, _, _, _, _, _, _, _, _, _, _, _, _] _
  refine mixz_p rfl ?_
  refine mix1_val (fun wz hz => ex_fieldAddrA fl204_4 rfl) ?_
  refine mixz_o rfl ?_
  refine ops_buildSlice Try.underlying177 ty126 H1 rfl (by decide) rfl ?_
  intro w2 g2 H2 hg2
  refine ops_nil ?_
  refine ⟨fun hne => H2.pick [0, 1] (by decide), ?_⟩
  change MixZ _ _ _ _ _ _ [_, _, _, _, _, _, _, _, _, _, _, _, _, _, _, _, _, _, _, _, _, _, _, _, _, _, _] _
  refine mixz_o rfl ?_
  refine ops_call (ex_call gf61 rfl) (HS.grp (o := 0) pint_W H2 (by decide) (fun _ _ hM => (Th.part hM 0 5)) (At.cast (At.trans (At.self _) (At.sub _ 0 5)) (by decide))) ?_
  rintro _ w3 ⟨g, cap, sp, HS⟩
  have H3 := HS.H.here
  refine ops_nil ?_
  refine ⟨fun hne => absurd rfl hne, ?_⟩
  change MixZ _ _ _ _ _ _ [_, _, _, _, _, _, _, _, _, _, _, _, _, _, _, _, _, _, _, _, _, _, _, _, _, _, _] _
  refine mixz_nil ?_
  change Run _ _ _ _ [_, _, _, _, _, _, _, _, _, _, _, _, _, _, _, _, _, _, _, _, _, _, _, _, _, _, _] _
  refine run_region ?_
  refine ops_val (ex_move rfl) ?_
  refine ops_val (ex_move rfl) ?_
  refine ops_val (ex_nilCheck rfl) ?_
  change Ops _ _ _ _ _ _ [_, _, _, _, _, _, _, _, _, _, _, _, _, _, _, _, _, _, _, _, _, _, _, _, _, _, _] _
  refine ops_val (ex_fieldAddrA fl204_5 rfl) ?_
  refine ops_call (ex_call gf73 rfl) (HS.one (o := 5) pop_W (by decide) (fun _ _ hM => (Th.part hM 5 6)) (At.cast (At.trans (At.self _) (At.sub _ 5 6)) (by decide))) ?_
  rintro _ w4 ⟨g, cap, sp, HS⟩
  have H4 := HS.H.here
  refine ops_nil ?_
  change Run _ _ _ _ [_, _, _, _, _, _, _, _, _, _, _, _, _, _, _, _, _, _, _, _, _, _, _, _, _, _, _] _
  refine run_nil ?_
  refine fin_end0 rfl ?_
  have hw0 : List.take 11 x = x := Th.whole hM
  refine HS.out ?_
  show _ = wAll (x) st
  simp only [List.drop_zero, wAll_part, wAll_append, Nat.reduceAdd, hw0]
theorem pwait_W : PenW Try.prog 115 thwait false := pwait_w
set_option maxRecDepth 100000 in
set_option maxHeartbeats 4000000 in
theorem pwait_r (gp gr : Nat) (gb : Option Nat) (cb : Nat) (sb : List Value) (b : List UInt8) (hcb : b.length ≤ cb) (hbl : b.length ≤ 65536) (go o i e : Nat) (U : TypeId) (cs : List Value) (w0 : World) (H0 : Hp w0 w0 (bl (pr gp gr gb cb sb b i e ++ [(some go, U, cs)])) (pr gp gr gb cb sb b i e ++ [(some go, U, cs)])) (hi : i ≤ b.length) (hat : At cs o thwait.zs) (hfit : o + thwait.sz ≤ cs.length) :
    Does Try.prog 115 #[.pointer (some ⟨gp, 0, none⟩), .pointer (some ⟨go, o, none⟩)] w0 (fun _ w' => RdOut (pr gp gr gb cb sb b) thwait go o U cs b i e w0.heap.size w0 (bl (pr gp gr gb cb sb b i e ++ [(some go, U, cs)])) w') := by
  refine does_of Try.func115 Try.ntmps115 rfl ?_
  change Run _ _ _ _ [.pointer (some ⟨gp, 0, none⟩), .pointer (some ⟨go, o, none⟩), undef, undef, undef, undef, undef, undef, undef, undef, undef, undef, undef, undef, undef, undef, undef, undef, undef, undef, undef, undef, undef, undef, undef, undef, undef] _
  change o + 11 ≤ cs.length at hfit
  have HS := RSt.start (R := pr gp gr gb cb sb b) (o := o) H0 hi
  have H := HS.H.here
  refine run_seq ?_
  refine run_mixZ 17 [(true, 0), (true, 1), (true, 2), (true, 3), (true, 4), (true, 5), (true, 6), (true, 7), (true, 8), (true, 9), (true, 10), (true, 11), (true, 12), (true, 13), (true, 14), (true, 15), (false, 16), (false, 17)] H [0, 1, 2, 3] mixed (by decide) (by kernel_rfl) ?_
  rintro w1 hw1
  have H1 := Hp.drew H; rw [← hw1] at H1
  refine mixz_p rfl ?_
  refine mix1_val (fun wz hz => ex_move rfl) ?_
  refine mixz_p rfl ?_
  refine mix1_val (fun wz hz => ex_move rfl) ?_
  refine mixz_p rfl ?_
  refine mix1_val (fun wz hz => ex_nilCheck rfl) ?_
  change MixZ _ _ _ _ _ _ [_, _, _, _, _, _, _, _, _, _, _, _, _, _, _, _, _, _, _, _, _, _, _, _, _, _, _] _
  refine mixz_p rfl ?_
  refine mix1_val (fun wz hz => ex_fieldAddr fl204_0 rfl) ?_
  refine mixz_p rfl ?_
  refine mix1_val (fun wz hz => ex_move rfl) ?_
  refine mixz_p rfl ?_
  refine mix1_val (fun wz hz => ex_nilCheck rfl) ?_
  change MixZ _ _ _ _ _ _ [_, _, _, _, _, _, _, _, _, _, _, _, _, _, _, _, _, _, _, _, _, _, _, _, _, _, _] _
  refine mixz_p rfl ?_
  refine mix1_val (fun wz hz => ex_fieldAddr fl204_1 rfl) ?_
  refine mixz_p rfl ?_
  refine mix1_val (fun wz hz => ex_move rfl) ?_
  refine mixz_p rfl ?_
  refine mix1_val (fun wz hz => ex_nilCheck rfl) ?_
  change MixZ _ _ _ _ _ _ [_, _, _, _, _, _, _, _, _, _, _, _, _, _, _, _, _, _, _, _, _, _, _, _, _, _, _] _
  refine mixz_p rfl ?_
  refine mix1_val (fun wz hz => ex_fieldAddr fl204_2 rfl) ?_
  refine mixz_p rfl ?_
  refine mix1_val (fun wz hz => ex_move rfl) ?_
  refine mixz_p rfl ?_
  refine mix1_val (fun wz hz => ex_nilCheck rfl) ?_
  change MixZ _ _ _ _ _ _ [_, _, _, _, _, _, _, _, _, _, _, _, _, _, _, _, _, _, _, _, _, _, _, _, _, _, _] _
  refine mixz_p rfl ?_
  refine mix1_val (fun wz hz => ex_fieldAddr fl204_3 rfl) ?_
  refine mixz_p rfl ?_
  refine mix1_val (fun wz hz => ex_move rfl) ?_
  refine mixz_p rfl ?_
  refine mix1_val (fun wz hz => ex_nilCheck rfl) ?_
  change MixZ _ _ _ _ _ _ [_, _, _, _, _, _, _, _, _, _, _, _, _, _, _, _, _, _, _, _, _, _, _, _, _, _, _] _
  refine mixz_p rfl ?_
  refine mix1_val (fun wz hz => ex_fieldAddr fl204_4 rfl) ?_
  refine mixz_o rfl ?_
  refine ops_buildSlice Try.underlying177 ty126 H1 rfl (by decide) rfl ?_
  intro w2 g2 H2 hg2
  refine ops_nil ?_
  refine ⟨fun hne => H2.pick [0, 1, 2, 3] (by decide), ?_⟩
  change MixZ _ _ _ _ _ _ [_, _, _, _, _, _, _, _, _, _, _, _, _, _, _, _, _, _, _, _, _, _, _, _, _, _, _] _
  refine mixz_o rfl ?_
  refine ops_call (ex_call gf61 rfl) (HS.grp (q := 0) (pint_R gp gr gb cb sb b hcb hbl) (by decide) H2 (by decide) (show o + 0 + 5 ≤ _ by omega) (At.cast (hat.trans (At.sub _ 0 5)) rfl) rfl rfl) ?_
  rintro _ w3 ⟨us, i1, e1, HS⟩
  replace HS := HS.join1
  have H3 := HS.H.here
  refine ops_nil ?_
  refine ⟨fun hne => absurd rfl hne, ?_⟩
  change MixZ _ _ _ _ _ _ [_, _, _, _, _, _, _, _, _, _, _, _, _, _, _, _, _, _, _, _, _, _, _, _, _, _, _] _
  refine mixz_nil ?_
  change Run _ _ _ _ [_, _, _, _, _, _, _, _, _, _, _, _, _, _, _, _, _, _, _, _, _, _, _, _, _, _, _] _
  refine run_region ?_
  refine ops_val (ex_move rfl) ?_
  refine ops_val (ex_move rfl) ?_
  refine ops_val (ex_nilCheck rfl) ?_
  change Ops _ _ _ _ _ _ [_, _, _, _, _, _, _, _, _, _, _, _, _, _, _, _, _, _, _, _, _, _, _, _, _, _, _] _
  refine ops_val (ex_fieldAddr fl204_5 rfl) ?_
  refine ops_call (ex_call gf73 rfl) (HS.one (q := 5) (pop_R gp gr gb cb sb b hcb hbl) (by decide) (show o + 5 + 6 ≤ _ by omega) (At.cast (hat.trans (At.sub _ 5 6)) rfl)) ?_
  rintro _ w4 ⟨us, i1, e1, HS⟩
  replace HS := HS.join1
  have H4 := HS.H.here
  refine ops_nil ?_
  change Run _ _ _ _ [_, _, _, _, _, _, _, _, _, _, _, _, _, _, _, _, _, _, _, _, _, _, _, _, _, _, _] _
  refine run_nil ?_
  refine fin_end0 rfl ?_
  exact HS.out
theorem pwait_R : PenR Try.prog 115 thwait := pwait_r
set_option maxRecDepth 100000 in
set_option maxHeartbeats 4000000 in
theorem pdeal_w (gp : Nat) (g : Option Nat) (cap : Nat) (sp : List Value) (st : WS) (a : Addr) (x : thdeal.X) (vs : List Value) (w0 : World) (H0 : Hp w0 w0 (bl (pw gp g cap sp st)) (pw gp g cap sp st)) (hP : POk 65536 g cap sp st) (hM : thdeal.M w0 (fun b => b ∉ bl (pw gp g cap sp st)) x vs) (hC : Cl w0 (bl (pw gp g cap sp st)) a vs) (htw : false = true → Thawed w0 a) :
    Does Try.prog 117 #[.pointer (some ⟨gp, 0, none⟩), .pointer (some a)] w0 (fun _ w' => PwOut gp (wAll (thdeal.fl x) st) w0 (bl (pw gp g cap sp st)) w') := by
  refine does_of Try.func117 Try.ntmps117 rfl ?_
  change Run _ _ _ _ [.pointer (some ⟨gp, 0, none⟩), .pointer (some a), undef, undef, undef, undef, undef, undef, undef, undef, undef, undef, undef, undef, undef, undef, undef, undef, undef, undef, undef, undef, undef, undef, undef, undef, undef, undef, undef, undef, undef, undef, undef, undef, undef, undef, undef] _
  have HS : WSt false gp a w0 (bl (pw gp g cap sp st)) w0 st thdeal x vs g cap sp := ⟨H0, hP, hM, hC, fun h => ⟨htw h, by have hl := thdeal.len hM; change vs.length = 8 at hl; omega⟩⟩
  have H := HS.H.here
  refine run_seq ?_
  refine run_mixZ 8 [(true, 0), (true, 1), (true, 2), (true, 3), (true, 4), (true, 5), (true, 6), (false, 7), (false, 8)] H [0, 1] mixed (by decide) (by kernel_rfl) ?_
  rintro w1 hw1
  have H1 := Hp.drew H; rw [← hw1] at H1
  refine mixz_p rfl ?_
  refine mix1_val (fun wz hz => ex_move rfl) ?_
  refine mixz_p rfl ?_
  refine mix1_val (fun wz hz => ex_move rfl) ?_
  refine mixz_p rfl ?_
  refine mix1_val (fun wz hz => ex_nilCheck rfl) ?_
  change MixZ _ _ _ _ _ _ [_, _, _, _, _, _, _, _, _, _, _, _, _, _, _, _, _, _, _, _, _, _, _, _, _, _, _, _, _, _, _, _, _, _, _, _, _] _
  refine mixz_p rfl ?_
  refine mix1_val (fun wz hz => ex_fieldAddrA fl209_0 rfl) ?_
  refine mixz_p rfl ?_
  refine mix1_val (fun wz hz => ex_move rfl) ?_
  refine mixz_p rfl ?_
  refine mix1_val (fun wz hz => ex_nilCheck rfl) ?_
  change MixZ _ _ _ _ _ _ [_, _, _, _, _, _, _, _, _, _, _, _, _, _, _, _, _, _, _, _, _, _, _, _, _, _, _, _, _, _, _, _, _, _, _, _, _] _
  refine mixz_p rfl ?_
  refine mix1_val (fun wz hz => ex_fieldAddrA fl209_1 rfl) ?_
  refine mixz_o rfl ?_
  refine ops_buildSlice Try.underlying177 ty126 H1 rfl (by decide) rfl ?_
  intro w2 g2 H2 hg2
  refine ops_nil ?_
  refine ⟨fun hne => H2.pick [0, 1] (by decide), ?_⟩
  change MixZ _ _ _ _ _ _ [_, _, _, _, _, _, _, _, _, _, _, _, _, _, _, _, _, _, _, _, _, _, _, _, _, _, _, _, _, _, _, _, _, _, _, _, _] _
  refine mixz_o rfl ?_
  refine ops_call (ex_call gf61 rfl) (HS.grp (o := 0) pint_W H2 (by decide) (fun _ _ hM => (Th.part hM 0 2)) (At.cast (At.trans (At.self _) (At.sub _ 0 2)) (by decide))) ?_
  rintro _ w3 ⟨g, cap, sp, HS⟩
  have H3 := HS.H.here
  refine ops_nil ?_
  refine ⟨fun hne => absurd rfl hne, ?_⟩
  change MixZ _ _ _ _ _ _ [_, _, _, _, _, _, _, _, _, _, _, _, _, _, _, _, _, _, _, _, _, _, _, _, _, _, _, _, _, _, _, _, _, _, _, _, _] _
  refine mixz_nil ?_
  change Run _ _ _ _ [_, _, _, _, _, _, _, _, _, _, _, _, _, _, _, _, _, _, _, _, _, _, _, _, _, _, _, _, _, _, _, _, _, _, _, _, _] _
  refine run_seq ?_
  refine run_mixZ 8 [(true, 0), (true, 1), (true, 2), (true, 3), (true, 4), (true, 5), (true, 6), (false, 7), (false, 8)] H3 [0, 1] mixed (by decide) (by kernel_rfl) ?_
  rintro w4 hw4
  have H4 := Hp.drew H3; rw [← hw4] at H4
  refine mixz_p rfl ?_
  refine mix1_val (fun wz hz => ex_move rfl) ?_
  refine mixz_p rfl ?_
  refine mix1_val (fun wz hz => ex_move rfl) ?_
  refine mixz_p rfl ?_
  refine mix1_val (fun wz hz => ex_nilCheck rfl) ?_
  change MixZ _ _ _ _ _ _ [_, _, _, _, _, _, _, _, _, _, _, _, _, _, _, _, _, _, _, _, _, _, _, _, _, _, _, _, _, _, _, _, _, _, _, _, _] _
  refine mixz_p rfl ?_
  refine mix1_val (fun wz hz => ex_fieldAddrA fl209_2 rfl) ?_
  refine mixz_p rfl ?_
  refine mix1_val (fun wz hz => ex_move rfl) ?_
  refine mixz_p rfl ?_
  refine mix1_val (fun wz hz => ex_nilCheck rfl) ?_
  change MixZ _ _ _ _ _ _ [_, _, _, _, _, _, _, _, _, _, _, _, _, _, _, _, _, _, _, _, _, _, _, _, _, _, _, _, _, _, _, _, _, _, _, _, _] _
  refine mixz_p rfl ?_
  refine mix1_val (fun wz hz => ex_fieldAddrA fl209_3 rfl) ?_
  refine mixz_o rfl ?_
  refine ops_buildSlice Try.underlying217 ty140 H4 rfl (by decide) rfl ?_
  intro w5 g5 H5 hg5
  refine ops_nil ?_
  refine ⟨fun hne => H5.pick [0, 1] (by decide), ?_⟩
  change MixZ _ _ _ _ _ _ [_, _, _, _, _, _, _, _, _, _, _, _, _, _, _, _, _, _, _, _, _, _, _, _, _, _, _, _, _, _, _, _, _, _, _, _, _] _
  refine mixz_o rfl ?_
  refine ops_call (ex_call gf71 rfl) (HS.grp (o := 2) ptext_W H5 (by decide) (fun _ _ hM => (Th.part hM 2 2)) (At.cast (At.trans (At.self _) (At.sub _ 2 2)) (by decide))) ?_
  rintro _ w6 ⟨g, cap, sp, HS⟩
  have H6 := HS.H.here
  refine ops_nil ?_
  refine ⟨fun hne => absurd rfl hne, ?_⟩
  change MixZ _ _ _ _ _ _ [_, _, _, _, _, _, _, _, _, _, _, _, _, _, _, _, _, _, _, _, _, _, _, _, _, _, _, _, _, _, _, _, _, _, _, _, _] _
  refine mixz_nil ?_
  change Run _ _ _ _ [_, _, _, _, _, _, _, _, _, _, _, _, _, _, _, _, _, _, _, _, _, _, _, _, _, _, _, _, _, _, _, _, _, _, _, _, _] _
  refine run_mixZ 14 [(true, 0), (true, 1), (true, 2), (true, 3), (true, 4), (true, 5), (true, 6), (true, 7), (true, 8), (true, 9), (true, 10), (true, 11), (true, 12), (false, 13), (false, 14)] H6 [0, 1] mixed (by decide) (by kernel_rfl) ?_
  rintro w7 hw7
  have H7 := Hp.drew H6; rw [← hw7] at H7
  refine mixz_p rfl ?_
  refine mix1_val (fun wz hz => ex_move rfl) ?_
  refine mixz_p rfl ?_
  refine mix1_val (fun wz hz => ex_move rfl) ?_
  refine mixz_p rfl ?_
  refine mix1_val (fun wz hz => ex_nilCheck rfl) ?_
  change MixZ _ _ _ _ _ _ [_, _, _, _, _, _, _, _, _, _, _, _, _, _, _, _, _, _, _, _, _, _, _, _, _, _, _, _, _, _, _, _, _, _, _, _, _] _
  refine mixz_p rfl ?_
  refine mix1_val (fun wz hz => ex_fieldAddrA fl209_4 rfl) ?_
  refine mixz_p rfl ?_
  refine mix1_val (fun wz hz => ex_move rfl) ?_
  refine mixz_p rfl ?_
  refine mix1_val (fun wz hz => ex_nilCheck rfl) ?_
  change MixZ _ _ _ _ _ _ [_, _, _, _, _, _, _, _, _, _, _, _, _, _, _, _, _, _, _, _, _, _, _, _, _, _, _, _, _, _, _, _, _, _, _, _, _] _
  refine mixz_p rfl ?_
  refine mix1_val (fun wz hz => ex_fieldAddrA fl209_5 rfl) ?_
  refine mixz_p rfl ?_
  refine mix1_val (fun wz hz => ex_move rfl) ?_
  refine mixz_p rfl ?_
  refine mix1_val (fun wz hz => ex_nilCheck rfl) ?_
  change MixZ _ _ _ _ _ _ [_, _, _, _, _, _, _, _, _, _, _, _, _, _, _, _, _, _, _, _, _, _, _, _, _, _, _, _, _, _, _, _, _, _, _, _, _] _
  refine mixz_p rfl ?_
  refine mix1_val (fun wz hz => ex_fieldAddrA fl209_6 rfl) ?_
  refine mixz_p rfl ?_
  refine mix1_val (fun wz hz => ex_move rfl) ?_
  refine mixz_p rfl ?_
  refine mix1_val (fun wz hz => ex_nilCheck rfl) ?_
  change MixZ _ _ _ _ _ _ [_, _, _, _, _, _, _, _, _, _, _, _, _, _, _, _, _, _, _, _, _, _, _, _, _, _, _, _, _, _, _, _, _, _, _, _, _] _
  refine mixz_p rfl ?_
  refine mix1_val (fun wz hz => ex_fieldAddrA fl209_7 rfl) ?_
  refine mixz_o rfl ?_
  refine ops_buildSlice Try.underlying177 ty126 H7 rfl (by decide) rfl ?_
  intro w8 g8 H8 hg8
  refine ops_nil ?_
  refine ⟨fun hne => H8.pick [0, 1] (by decide), ?_⟩
  change MixZ _ _ _ _ _ _ [_, _, _, _, _, _, _, _, _, _, _, _, _, _, _, _, _, _, _, _, _, _, _, _, _, _, _, _, _, _, _, _, _, _, _, _, _] _
  refine mixz_o rfl ?_
  refine ops_call (ex_call gf61 rfl) (HS.grp (o := 4) pint_W H8 (by decide) (fun _ _ hM => (Th.part hM 4 4)) (At.cast (At.trans (At.self _) (At.sub _ 4 4)) (by decide))) ?_
  rintro _ w9 ⟨g, cap, sp, HS⟩
  have H9 := HS.H.here
  refine ops_nil ?_
  refine ⟨fun hne => absurd rfl hne, ?_⟩
  change MixZ _ _ _ _ _ _ [_, _, _, _, _, _, _, _, _, _, _, _, _, _, _, _, _, _, _, _, _, _, _, _, _, _, _, _, _, _, _, _, _, _, _, _, _] _
  refine mixz_nil ?_
  change Run _ _ _ _ [_, _, _, _, _, _, _, _, _, _, _, _, _, _, _, _, _, _, _, _, _, _, _, _, _, _, _, _, _, _, _, _, _, _, _, _, _] _
  refine run_nil ?_
  refine fin_end0 rfl ?_
  have hw0 : List.take 8 x = x := Th.whole hM
  refine HS.out ?_
  show _ = wAll (x) st
  simp only [List.drop_zero, wAll_part, wAll_append, Nat.reduceAdd, hw0]
theorem pdeal_W : PenW Try.prog 117 thdeal false := pdeal_w
set_option maxRecDepth 100000 in
set_option maxHeartbeats 4000000 in
theorem pdeal_r (gp gr : Nat) (gb : Option Nat) (cb : Nat) (sb : List Value) (b : List UInt8) (hcb : b.length ≤ cb) (hbl : b.length ≤ 65536) (go o i e : Nat) (U : TypeId) (cs : List Value) (w0 : World) (H0 : Hp w0 w0 (bl (pr gp gr gb cb sb b i e ++ [(some go, U, cs)])) (pr gp gr gb cb sb b i e ++ [(some go, U, cs)])) (hi : i ≤ b.length) (hat : At cs o thdeal.zs) (hfit : o + thdeal.sz ≤ cs.length) :
    Does Try.prog 117 #[.pointer (some ⟨gp, 0, none⟩), .pointer (some ⟨go, o, none⟩)] w0 (fun _ w' => RdOut (pr gp gr gb cb sb b) thdeal go o U cs b i e w0.heap.size w0 (bl (pr gp gr gb cb sb b i e ++ [(some go, U, cs)])) w') := by
  refine does_of Try.func117 Try.ntmps117 rfl ?_
  change Run _ _ _ _ [.pointer (some ⟨gp, 0, none⟩), .pointer (some ⟨go, o, none⟩), undef, undef, undef, undef, undef, undef, undef, undef, undef, undef, undef, undef, undef, undef, undef, undef, undef, undef, undef, undef, undef, undef, undef, undef, undef, undef, undef, undef, undef, undef, undef, undef, undef, undef, undef] _
  change o + 8 ≤ cs.length at hfit
  have HS := RSt.start (R := pr gp gr gb cb sb b) (o := o) H0 hi
  have H := HS.H.here
  refine run_seq ?_
  refine run_mixZ 8 [(true, 0), (true, 1), (true, 2), (true, 3), (true, 4), (true, 5), (true, 6), (false, 7), (false, 8)] H [0, 1, 2, 3] mixed (by decide) (by kernel_rfl) ?_
  rintro w1 hw1
  have H1 := Hp.drew H; rw [← hw1] at H1
  refine mixz_p rfl ?_
  refine mix1_val (fun wz hz => ex_move rfl) ?_
  refine mixz_p rfl ?_
  refine mix1_val (fun wz hz => ex_move rfl) ?_
  refine mixz_p rfl ?_
  refine mix1_val (fun wz hz => ex_nilCheck rfl) ?_
  change MixZ _ _ _ _ _ _ [_, _, _, _, _, _, _, _, _, _, _, _, _, _, _, _, _, _, _, _, _, _, _, _, _, _, _, _, _, _, _, _, _, _, _, _, _] _
  refine mixz_p rfl ?_
  refine mix1_val (fun wz hz => ex_fieldAddr fl209_0 rfl) ?_
  refine mixz_p rfl ?_
  refine mix1_val (fun wz hz => ex_move rfl) ?_
  refine mixz_p rfl ?_
  refine mix1_val (fun wz hz => ex_nilCheck rfl) ?_
  change MixZ _ _ _ _ _ _ [_, _, _, _, _, _, _, _, _, _, _, _, _, _, _, _, _, _, _, _, _, _, _, _, _, _, _, _, _, _, _, _, _, _, _, _, _] _
  refine mixz_p rfl ?_
  refine mix1_val (fun wz hz => ex_fieldAddr fl209_1 rfl) ?_
  refine mixz_o rfl ?_
  refine ops_buildSlice Try.underlying177 ty126 H1 rfl (by decide) rfl ?_
  intro w2 g2 H2 hg2
  refine ops_nil ?_
  refine ⟨fun hne => H2.pick [0, 1, 2, 3] (by decide), ?_⟩
  change MixZ _ _ _ _ _ _ [_, _, _, _, _, _, _, _, _, _, _, _, _, _, _, _, _, _, _, _, _, _, _, _, _, _, _, _, _, _, _, _, _, _, _, _, _] _
  refine mixz_o rfl ?_
  refine ops_call (ex_call gf61 rfl) (HS.grp (q := 0) (pint_R gp gr gb cb sb b hcb hbl) (by decide) H2 (by decide) (show o + 0 + 2 ≤ _ by omega) (At.cast (hat.trans (At.sub _ 0 2)) rfl) rfl rfl) ?_
  rintro _ w3 ⟨us, i1, e1, HS⟩
  replace HS := HS.join1
  have H3 := HS.H.here
  refine ops_nil ?_
  refine ⟨fun hne => absurd rfl hne, ?_⟩
  change MixZ _ _ _ _ _ _ [_, _, _, _, _, _, _, _, _, _, _, _, _, _, _, _, _, _, _, _, _, _, _, _, _, _, _, _, _, _, _, _, _, _, _, _, _] _
  refine mixz_nil ?_
  change Run _ _ _ _ [_, _, _, _, _, _, _, _, _, _, _, _, _, _, _, _, _, _, _, _, _, _, _, _, _, _, _, _, _, _, _, _, _, _, _, _, _] _
  refine run_seq ?_
  refine run_mixZ 8 [(true, 0), (true, 1), (true, 2), (true, 3), (true, 4), (true, 5), (true, 6), (false, 7), (false, 8)] H3 [0, 1, 2, 3] mixed (by decide) (by kernel_rfl) ?_
  rintro w4 hw4
  have H4 := Hp.drew H3; rw [← hw4] at H4
  refine mixz_p rfl ?_
  refine mix1_val (fun wz hz => ex_move rfl) ?_
  refine mixz_p rfl ?_
  refine mix1_val (fun wz hz => ex_move rfl) ?_
  refine mixz_p rfl ?_
  refine mix1_val (fun wz hz => ex_nilCheck rfl) ?_
  change MixZ _ _ _ _ _ _ [_, _, _, _, _, _, _, _, _, _, _, _, _, _, _, _, _, _, _, _, _, _, _, _, _, _, _, _, _, _, _, _, _, _, _, _, _] _
  refine mixz_p rfl ?_
  refine mix1_val (fun wz hz => ex_fieldAddr fl209_2 rfl) ?_
  refine mixz_p rfl ?_
  refine mix1_val (fun wz hz => ex_move rfl) ?_
  refine mixz_p rfl ?_
  refine mix1_val (fun wz hz => ex_nilCheck rfl) ?_
  change MixZ _ _ _ _ _ _ [_, _, _, _, _, _, _, _, _, _, _, _, _, _, _, _, _, _, _, _, _, _, _, _, _, _, _, _, _, _, _, _, _, _, _, _, _] _
  refine mixz_p rfl ?_
  refine mix1_val (fun wz hz => ex_fieldAddr fl209_3 rfl) ?_
  refine mixz_o rfl ?_
  refine ops_buildSlice Try.underlying217 ty140 H4 rfl (by decide) rfl ?_
  intro w5 g5 H5 hg5
  refine ops_nil ?_
  refine ⟨fun hne => H5.pick [0, 1, 2, 3] (by decide), ?_⟩
  change MixZ _ _ _ _ _ _ [_, _, _, _, _, _, _, _, _, _, _, _, _, _, _, _, _, _, _, _, _, _, _, _, _, _, _, _, _, _, _, _, _, _, _, _, _] _
  refine mixz_o rfl ?_
  refine ops_call (ex_call gf71 rfl) (HS.grp (q := 2) (ptext_R gp gr gb cb sb b hcb hbl) (by decide) H5 (by decide) (show o + 2 + 2 ≤ _ by omega) (At.cast (hat.trans (At.sub _ 2 2)) rfl) rfl rfl) ?_
  rintro _ w6 ⟨us, i1, e1, HS⟩
  replace HS := HS.join1
  have H6 := HS.H.here
  refine ops_nil ?_
  refine ⟨fun hne => absurd rfl hne, ?_⟩
  change MixZ _ _ _ _ _ _ [_, _, _, _, _, _, _, _, _, _, _, _, _, _, _, _, _, _, _, _, _, _, _, _, _, _, _, _, _, _, _, _, _, _, _, _, _] _
  refine mixz_nil ?_
  change Run _ _ _ _ [_, _, _, _, _, _, _, _, _, _, _, _, _, _, _, _, _, _, _, _, _, _, _, _, _, _, _, _, _, _, _, _, _, _, _, _, _] _
  refine run_mixZ 14 [(true, 0), (true, 1), (true, 2), (true, 3), (true, 4), (true, 5), (true, 6), (true, 7), (true, 8), (true, 9), (true, 10), (true, 11), (true, 12), (false, 13), (false, 14)] H6 [0, 1, 2, 3] mixed (by decide) (by kernel_rfl) ?_
  rintro w7 hw7
  have H7 := Hp.drew H6; rw [← hw7] at H7
  refine mixz_p rfl ?_
  refine mix1_val (fun wz hz => ex_move rfl) ?_
  refine mixz_p rfl ?_
  refine mix1_val (fun wz hz => ex_move rfl) ?_
  refine mixz_p rfl ?_
  refine mix1_val (fun wz hz => ex_nilCheck rfl) ?_
  change MixZ _ _ _ _ _ _ [_, _, _, _, _, _, _, _, _, _, _, _, _, _, _, _, _, _, _, _, _, _, _, _, _, _, _, _, _, _, _, _, _, _, _, _, _] _
  refine mixz_p rfl ?_
  refine mix1_val (fun wz hz => ex_fieldAddr fl209_4 rfl) ?_
  refine mixz_p rfl ?_
  refine mix1_val (fun wz hz => ex_move rfl) ?_
  refine mixz_p rfl ?_
  refine mix1_val (fun wz hz => ex_nilCheck rfl) ?_
  change MixZ _ _ _ _ _ _ [_, _, _, _, _, _, _, _, _, _, _, _, _, _, _, _, _, _, _, _, _, _, _, _, _, _, _, _, _, _, _, _, _, _, _, _, _] _
  refine mixz_p rfl ?_
  refine mix1_val (fun wz hz => ex_fieldAddr fl209_5 rfl) ?_
  refine mixz_p rfl ?_
  refine mix1_val (fun wz hz => ex_move rfl) ?_
  refine mixz_p rfl ?_
  refine mix1_val (fun wz hz => ex_nilCheck rfl) ?_
  change MixZ _ _ _ _ _ _ [_, _, _, _, _, _, _, _, _, _, _, _, _, _, _, _, _, _, _, _, _, _, _, _, _, _, _, _, _, _, _, _, _, _, _, _, _] _
  refine mixz_p rfl ?_
  refine mix1_val (fun wz hz => ex_fieldAddr fl209_6 rfl) ?_
  refine mixz_p rfl ?_
  refine mix1_val (fun wz hz => ex_move rfl) ?_
  refine mixz_p rfl ?_
  refine mix1_val (fun wz hz => ex_nilCheck rfl) ?_
  change MixZ _ _ _ _ _ _ [_, _, _, _, _, _, _, _, _, _, _, _, _, _, _, _, _, _, _, _, _, _, _, _, _, _, _, _, _, _, _, _, _, _, _, _, _] _
  refine mixz_p rfl ?_
  refine mix1_val (fun wz hz => ex_fieldAddr fl209_7 rfl) ?_
  refine mixz_o rfl ?_
  refine ops_buildSlice Try.underlying177 ty126 H7 rfl (by decide) rfl ?_
  intro w8 g8 H8 hg8
  refine ops_nil ?_
  refine ⟨fun hne => H8.pick [0, 1, 2, 3] (by decide), ?_⟩
  change MixZ _ _ _ _ _ _ [_, _, _, _, _, _, _, _, _, _, _, _, _, _, _, _, _, _, _, _, _, _, _, _, _, _, _, _, _, _, _, _, _, _, _, _, _] _
  refine mixz_o rfl ?_
  refine ops_call (ex_call gf61 rfl) (HS.grp (q := 4) (pint_R gp gr gb cb sb b hcb hbl) (by decide) H8 (by decide) (show o + 4 + 4 ≤ _ by omega) (At.cast (hat.trans (At.sub _ 4 4)) rfl) rfl rfl) ?_
  rintro _ w9 ⟨us, i1, e1, HS⟩
  replace HS := HS.join1
  have H9 := HS.H.here
  refine ops_nil ?_
  refine ⟨fun hne => absurd rfl hne, ?_⟩
  change MixZ _ _ _ _ _ _ [_, _, _, _, _, _, _, _, _, _, _, _, _, _, _, _, _, _, _, _, _, _, _, _, _, _, _, _, _, _, _, _, _, _, _, _, _] _
  refine mixz_nil ?_
  change Run _ _ _ _ [_, _, _, _, _, _, _, _, _, _, _, _, _, _, _, _, _, _, _, _, _, _, _, _, _, _, _, _, _, _, _, _, _, _, _, _, _] _
  refine run_nil ?_
  refine fin_end0 rfl ?_
  exact HS.out
theorem pdeal_R : PenR Try.prog 117 thdeal := pdeal_r
set_option maxRecDepth 100000 in
set_option maxHeartbeats 4000000 in
theorem pend_w (gp : Nat) (g : Option Nat) (cap : Nat) (sp : List Value) (st : WS) (a : Addr) (x : thend.X) (vs : List Value) (w0 : World) (H0 : Hp w0 w0 (bl (pw gp g cap sp st)) (pw gp g cap sp st)) (hP : POk 65536 g cap sp st) (hM : thend.M w0 (fun b => b ∉ bl (pw gp g cap sp st)) x vs) (hC : Cl w0 (bl (pw gp g cap sp st)) a vs) (htw : false = true → Thawed w0 a) :
    Does Try.prog 119 #[.pointer (some ⟨gp, 0, none⟩), .pointer (some a)] w0 (fun _ w' => PwOut gp (wAll (thend.fl x) st) w0 (bl (pw gp g cap sp st)) w') := by
  refine does_of Try.func119 Try.ntmps119 rfl ?_
  change Run _ _ _ _ [.pointer (some ⟨gp, 0, none⟩), .pointer (some a), undef, undef, undef, undef, undef, undef, undef, undef, undef, undef, undef] _
  have HS : WSt false gp a w0 (bl (pw gp g cap sp st)) w0 st thend x vs g cap sp := ⟨H0, hP, hM, hC, fun h => ⟨htw h, by have hl := thend.len hM; change vs.length = 2 at hl; omega⟩⟩
  have H := HS.H.here
  refine run_mixZ 8 [(true, 0), (true, 1), (true, 2), (true, 3), (true, 4), (true, 5), (true, 6), (false, 7), (false, 8)] H [0, 1] mixed (by decide) (by kernel_rfl) ?_
  rintro w1 hw1
  have H1 := Hp.drew H; rw [← hw1] at H1
  refine mixz_p rfl ?_
  refine mix1_val (fun wz hz => ex_move rfl) ?_
  refine mixz_p rfl ?_
  refine mix1_val (fun wz hz => ex_move rfl) ?_
  refine mixz_p rfl ?_
  refine mix1_val (fun wz hz => ex_nilCheck rfl) ?_
  change MixZ _ _ _ _ _ _ [_, _, _, _, _, _, _, _, _, _, _, _, _] _
  refine mixz_p rfl ?_
  refine mix1_val (fun wz hz => ex_fieldAddrA fl214_0 rfl) ?_
  refine mixz_p rfl ?_
  refine mix1_val (fun wz hz => ex_move rfl) ?_
  refine mixz_p rfl ?_
  refine mix1_val (fun wz hz => ex_nilCheck rfl) ?_
  change MixZ _ _ _ _ _ _ [_, _, _, _, _, _, _, _, _, _, _, _, _] _
  refine mixz_p rfl ?_
  refine mix1_val (fun wz hz => ex_fieldAddrA fl214_1 rfl) ?_
  refine mixz_o rfl ?_
  refine ops_buildSlice Try.underlying177 ty126 H1 rfl (by decide) rfl ?_
  intro w2 g2 H2 hg2
  refine ops_nil ?_
  refine ⟨fun hne => H2.pick [0, 1] (by decide), ?_⟩
  change MixZ _ _ _ _ _ _ [_, _, _, _, _, _, _, _, _, _, _, _, _] _
  refine mixz_o rfl ?_
  refine ops_call (ex_call gf61 rfl) (HS.grp (o := 0) pint_W H2 (by decide) (fun _ _ hM => (Th.part hM 0 2)) (At.cast (At.trans (At.self _) (At.sub _ 0 2)) (by decide))) ?_
  rintro _ w3 ⟨g, cap, sp, HS⟩
  have H3 := HS.H.here
  refine ops_nil ?_
  refine ⟨fun hne => absurd rfl hne, ?_⟩
  change MixZ _ _ _ _ _ _ [_, _, _, _, _, _, _, _, _, _, _, _, _] _
  refine mixz_nil ?_
  change Run _ _ _ _ [_, _, _, _, _, _, _, _, _, _, _, _, _] _
  refine run_nil ?_
  refine fin_end0 rfl ?_
  have hw0 : List.take 2 x = x := Th.whole hM
  refine HS.out ?_
  show _ = wAll (x) st
  simp only [List.drop_zero, wAll_part, wAll_append, Nat.reduceAdd, hw0]
theorem pend_W : PenW Try.prog 119 thend false := pend_w
set_option maxRecDepth 100000 in
set_option maxHeartbeats 4000000 in
theorem pend_r (gp gr : Nat) (gb : Option Nat) (cb : Nat) (sb : List Value) (b : List UInt8) (hcb : b.length ≤ cb) (hbl : b.length ≤ 65536) (go o i e : Nat) (U : TypeId) (cs : List Value) (w0 : World) (H0 : Hp w0 w0 (bl (pr gp gr gb cb sb b i e ++ [(some go, U, cs)])) (pr gp gr gb cb sb b i e ++ [(some go, U, cs)])) (hi : i ≤ b.length) (hat : At cs o thend.zs) (hfit : o + thend.sz ≤ cs.length) :
    Does Try.prog 119 #[.pointer (some ⟨gp, 0, none⟩), .pointer (some ⟨go, o, none⟩)] w0 (fun _ w' => RdOut (pr gp gr gb cb sb b) thend go o U cs b i e w0.heap.size w0 (bl (pr gp gr gb cb sb b i e ++ [(some go, U, cs)])) w') := by
  refine does_of Try.func119 Try.ntmps119 rfl ?_
  change Run _ _ _ _ [.pointer (some ⟨gp, 0, none⟩), .pointer (some ⟨go, o, none⟩), undef, undef, undef, undef, undef, undef, undef, undef, undef, undef, undef] _
  change o + 2 ≤ cs.length at hfit
  have HS := RSt.start (R := pr gp gr gb cb sb b) (o := o) H0 hi
  have H := HS.H.here
  refine run_mixZ 8 [(true, 0), (true, 1), (true, 2), (true, 3), (true, 4), (true, 5), (true, 6), (false, 7), (false, 8)] H [0, 1, 2, 3] mixed (by decide) (by kernel_rfl) ?_
  rintro w1 hw1
  have H1 := Hp.drew H; rw [← hw1] at H1
  refine mixz_p rfl ?_
  refine mix1_val (fun wz hz => ex_move rfl) ?_
  refine mixz_p rfl ?_
  refine mix1_val (fun wz hz => ex_move rfl) ?_
  refine mixz_p rfl ?_
  refine mix1_val (fun wz hz => ex_nilCheck rfl) ?_
  change MixZ _ _ _ _ _ _ [_, _, _, _, _, _, _, _, _, _, _, _, _] _
  refine mixz_p rfl ?_
  refine mix1_val (fun wz hz => ex_fieldAddr fl214_0 rfl) ?_
  refine mixz_p rfl ?_
  refine mix1_val (fun wz hz => ex_move rfl) ?_
  refine mixz_p rfl ?_
  refine mix1_val (fun wz hz => ex_nilCheck rfl) ?_
  change MixZ _ _ _ _ _ _ [_, _, _, _, _, _, _, _, _, _, _, _, _] _
  refine mixz_p rfl ?_
  refine mix1_val (fun wz hz => ex_fieldAddr fl214_1 rfl) ?_
  refine mixz_o rfl ?_
  refine ops_buildSlice Try.underlying177 ty126 H1 rfl (by decide) rfl ?_
  intro w2 g2 H2 hg2
  refine ops_nil ?_
  refine ⟨fun hne => H2.pick [0, 1, 2, 3] (by decide), ?_⟩
  change MixZ _ _ _ _ _ _ [_, _, _, _, _, _, _, _, _, _, _, _, _] _
  refine mixz_o rfl ?_
  refine ops_call (ex_call gf61 rfl) (HS.grp (q := 0) (pint_R gp gr gb cb sb b hcb hbl) (by decide) H2 (by decide) (show o + 0 + 2 ≤ _ by omega) (At.cast (hat.trans (At.sub _ 0 2)) rfl) rfl rfl) ?_
  rintro _ w3 ⟨us, i1, e1, HS⟩
  replace HS := HS.join1
  have H3 := HS.H.here
  refine ops_nil ?_
  refine ⟨fun hne => absurd rfl hne, ?_⟩
  change MixZ _ _ _ _ _ _ [_, _, _, _, _, _, _, _, _, _, _, _, _] _
  refine mixz_nil ?_
  change Run _ _ _ _ [_, _, _, _, _, _, _, _, _, _, _, _, _] _
  refine run_nil ?_
  refine fin_end0 rfl ?_
  exact HS.out
theorem pend_R : PenR Try.prog 119 thend := pend_r
set_option maxRecDepth 100000 in
set_option maxHeartbeats 4000000 in
theorem pplace_w (gp : Nat) (g : Option Nat) (cap : Nat) (sp : List Value) (st : WS) (a : Addr) (x : thplace.X) (vs : List Value) (w0 : World) (H0 : Hp w0 w0 (bl (pw gp g cap sp st)) (pw gp g cap sp st)) (hP : POk 65536 g cap sp st) (hM : thplace.M w0 (fun b => b ∉ bl (pw gp g cap sp st)) x vs) (hC : Cl w0 (bl (pw gp g cap sp st)) a vs) (htw : false = true → Thawed w0 a) :
    Does Try.prog 94 #[.pointer (some ⟨gp, 0, none⟩), .pointer (some a)] w0 (fun _ w' => PwOut gp (wAll (thplace.fl x) st) w0 (bl (pw gp g cap sp st)) w') := by
  refine does_of Try.func94 Try.ntmps94 rfl ?_
  change Run _ _ _ _ [.pointer (some ⟨gp, 0, none⟩), .pointer (some a), undef, undef, undef, undef, undef, undef, undef, undef, undef, undef, undef, undef, undef, undef, undef, undef, undef, undef, undef, undef] _
  have HS : WSt false gp a w0 (bl (pw gp g cap sp st)) w0 st thplace x vs g cap sp := ⟨H0, hP, hM, hC, fun h => ⟨htw h, by have hl := thplace.len hM; change vs.length = 3 at hl; omega⟩⟩
  have H := HS.H.here
  refine run_seq ?_
  refine run_region ?_
  refine ops_val (ex_move rfl) ?_
  refine ops_val (ex_move rfl) ?_
  refine ops_val (ex_nilCheck rfl) ?_
  change Ops _ _ _ _ _ _ [_, _, _, _, _, _, _, _, _, _, _, _, _, _, _, _, _, _, _, _, _, _] _
  refine ops_val (ex_fieldAddrA fl119_0 rfl) ?_
  refine ops_buildSlice Try.underlying177 ty126 H rfl (by decide) rfl ?_
  intro w1 g1 H1 hg1
  refine ops_call (ex_call gf61 rfl) (HS.grp (o := 0) pint_W H1 (by decide) (fun _ _ hM => (Th.part hM 0 1)) (At.cast (At.trans (At.self _) (At.sub _ 0 1)) (by decide))) ?_
  rintro _ w2 ⟨g, cap, sp, HS⟩
  have H2 := HS.H.here
  refine ops_nil ?_
  change Run _ _ _ _ [_, _, _, _, _, _, _, _, _, _, _, _, _, _, _, _, _, _, _, _, _, _] _
  refine run_seq ?_
  refine run_region ?_
  refine ops_val (ex_move rfl) ?_
  refine ops_val (ex_move rfl) ?_
  refine ops_val (ex_nilCheck rfl) ?_
  change Ops _ _ _ _ _ _ [_, _, _, _, _, _, _, _, _, _, _, _, _, _, _, _, _, _, _, _, _, _] _
  refine ops_val (ex_fieldAddrA fl119_1 rfl) ?_
  refine ops_buildSlice Try.underlying217 ty140 H2 rfl (by decide) rfl ?_
  intro w3 g3 H3 hg3
  refine ops_call (ex_call gf71 rfl) (HS.grp (o := 1) ptext_W H3 (by decide) (fun _ _ hM => (Th.part hM 1 1)) (At.cast (At.trans (At.self _) (At.sub _ 1 1)) (by decide))) ?_
  rintro _ w4 ⟨g, cap, sp, HS⟩
  have H4 := HS.H.here
  refine ops_nil ?_
  change Run _ _ _ _ [_, _, _, _, _, _, _, _, _, _, _, _, _, _, _, _, _, _, _, _, _, _] _
  refine run_region ?_
  refine ops_val (ex_move rfl) ?_
  refine ops_val (ex_move rfl) ?_
  refine ops_val (ex_nilCheck rfl) ?_
  change Ops _ _ _ _ _ _ [_, _, _, _, _, _, _, _, _, _, _, _, _, _, _, _, _, _, _, _, _, _] _
  refine ops_val (ex_fieldAddrA fl119_2 rfl) ?_
  refine ops_buildSlice Try.underlying177 ty126 H4 rfl (by decide) rfl ?_
  intro w5 g5 H5 hg5
  refine ops_call (ex_call gf61 rfl) (HS.grp (o := 2) pint_W H5 (by decide) (fun _ _ hM => (Th.part hM 2 1)) (At.cast (At.trans (At.self _) (At.sub _ 2 1)) (by decide))) ?_
  rintro _ w6 ⟨g, cap, sp, HS⟩
  have H6 := HS.H.here
  refine ops_nil ?_
  change Run _ _ _ _ [_, _, _, _, _, _, _, _, _, _, _, _, _, _, _, _, _, _, _, _, _, _] _
  refine run_nil ?_
  refine fin_end0 rfl ?_
  have hw0 : List.take 3 x = x := Th.whole hM
  refine HS.out ?_
  show _ = wAll (x) st
  simp only [List.drop_zero, wAll_part, wAll_append, Nat.reduceAdd, hw0]
theorem pplace_W : PenW Try.prog 94 thplace false := pplace_w
set_option maxRecDepth 100000 in
set_option maxHeartbeats 4000000 in
theorem pplace_r (gp gr : Nat) (gb : Option Nat) (cb : Nat) (sb : List Value) (b : List UInt8) (hcb : b.length ≤ cb) (hbl : b.length ≤ 65536) (go o i e : Nat) (U : TypeId) (cs : List Value) (w0 : World) (H0 : Hp w0 w0 (bl (pr gp gr gb cb sb b i e ++ [(some go, U, cs)])) (pr gp gr gb cb sb b i e ++ [(some go, U, cs)])) (hi : i ≤ b.length) (hat : At cs o thplace.zs) (hfit : o + thplace.sz ≤ cs.length) :
    Does Try.prog 94 #[.pointer (some ⟨gp, 0, none⟩), .pointer (some ⟨go, o, none⟩)] w0 (fun _ w' => RdOut (pr gp gr gb cb sb b) thplace go o U cs b i e w0.heap.size w0 (bl (pr gp gr gb cb sb b i e ++ [(some go, U, cs)])) w') := by
  refine does_of Try.func94 Try.ntmps94 rfl ?_
  change Run _ _ _ _ [.pointer (some ⟨gp, 0, none⟩), .pointer (some ⟨go, o, none⟩), undef, undef, undef, undef, undef, undef, undef, undef, undef, undef, undef, undef, undef, undef, undef, undef, undef, undef, undef, undef] _
  change o + 3 ≤ cs.length at hfit
  have HS := RSt.start (R := pr gp gr gb cb sb b) (o := o) H0 hi
  have H := HS.H.here
  refine run_seq ?_
  refine run_region ?_
  refine ops_val (ex_move rfl) ?_
  refine ops_val (ex_move rfl) ?_
  refine ops_val (ex_nilCheck rfl) ?_
  change Ops _ _ _ _ _ _ [_, _, _, _, _, _, _, _, _, _, _, _, _, _, _, _, _, _, _, _, _, _] _
  refine ops_val (ex_fieldAddr fl119_0 rfl) ?_
  refine ops_buildSlice Try.underlying177 ty126 H rfl (by decide) rfl ?_
  intro w1 g1 H1 hg1
  refine ops_call (ex_call gf61 rfl) (HS.grp (q := 0) (pint_R gp gr gb cb sb b hcb hbl) (by decide) H1 (by decide) (show o + 0 + 1 ≤ _ by omega) (At.cast (hat.trans (At.sub _ 0 1)) rfl) rfl rfl) ?_
  rintro _ w2 ⟨us, i1, e1, HS⟩
  replace HS := HS.join1
  have H2 := HS.H.here
  refine ops_nil ?_
  change Run _ _ _ _ [_, _, _, _, _, _, _, _, _, _, _, _, _, _, _, _, _, _, _, _, _, _] _
  refine run_seq ?_
  refine run_region ?_
  refine ops_val (ex_move rfl) ?_
  refine ops_val (ex_move rfl) ?_
  refine ops_val (ex_nilCheck rfl) ?_
  change Ops _ _ _ _ _ _ [_, _, _, _, _, _, _, _, _, _, _, _, _, _, _, _, _, _, _, _, _, _] _
  refine ops_val (ex_fieldAddr fl119_1 rfl) ?_
  refine ops_buildSlice Try.underlying217 ty140 H2 rfl (by decide) rfl ?_
  intro w3 g3 H3 hg3
  refine ops_call (ex_call gf71 rfl) (HS.grp (q := 1) (ptext_R gp gr gb cb sb b hcb hbl) (by decide) H3 (by decide) (show o + 1 + 1 ≤ _ by omega) (At.cast (hat.trans (At.sub _ 1 1)) rfl) rfl rfl) ?_
  rintro _ w4 ⟨us, i1, e1, HS⟩
  replace HS := HS.join1
  have H4 := HS.H.here
  refine ops_nil ?_
  change Run _ _ _ _ [_, _, _, _, _, _, _, _, _, _, _, _, _, _, _, _, _, _, _, _, _, _] _
  refine run_region ?_
  refine ops_val (ex_move rfl) ?_
  refine ops_val (ex_move rfl) ?_
  refine ops_val (ex_nilCheck rfl) ?_
  change Ops _ _ _ _ _ _ [_, _, _, _, _, _, _, _, _, _, _, _, _, _, _, _, _, _, _, _, _, _] _
  refine ops_val (ex_fieldAddr fl119_2 rfl) ?_
  refine ops_buildSlice Try.underlying177 ty126 H4 rfl (by decide) rfl ?_
  intro w5 g5 H5 hg5
  refine ops_call (ex_call gf61 rfl) (HS.grp (q := 2) (pint_R gp gr gb cb sb b hcb hbl) (by decide) H5 (by decide) (show o + 2 + 1 ≤ _ by omega) (At.cast (hat.trans (At.sub _ 2 1)) rfl) rfl rfl) ?_
  rintro _ w6 ⟨us, i1, e1, HS⟩
  replace HS := HS.join1
  have H6 := HS.H.here
  refine ops_nil ?_
  change Run _ _ _ _ [_, _, _, _, _, _, _, _, _, _, _, _, _, _, _, _, _, _, _, _, _, _] _
  refine run_nil ?_
  refine fin_end0 rfl ?_
  exact HS.out
theorem pplace_R : PenR Try.prog 94 thplace := pplace_r
end Go.Proofs.Ytoeobicpdeklaaa
