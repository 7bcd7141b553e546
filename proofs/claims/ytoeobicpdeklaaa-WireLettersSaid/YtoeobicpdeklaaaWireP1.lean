/- Walks of layer 2, printed by wip/gen/codec.py. -/
import Derived.Test.YtoeobicpdeklaaaWireL3
namespace Go.Proofs.Ytoeobicpdeklaaa
open Go Go.RowKit
set_option linter.unusedVariables false
attribute [local irreducible] Still Ops Does Cd
set_option maxRecDepth 100000 in
set_option maxHeartbeats 4000000 in
theorem pstop_b (gp gr : Nat) (gb : Option Nat) (cb : Nat) (sb : List Value) (b : List UInt8) (j e : Nat) (w0 : World) (H0 : Hp w0 w0 (bl (prB gp gr gb cb sb b j e)) (prB gp gr gb cb sb b j e)) (hcb : b.length ≤ cb) (hbl : b.length ≤ 65536) (hj : j ≤ b.length) (he : e ≠ 0) :
    Does Try.prog 100 #[.pointer (some ⟨gp, 0, none⟩)] w0 (fun r w' => r = .bool true ∧ Hp w0 w' (bl (prB gp gr gb cb sb b j e)) (prB gp gr gb cb sb b j e)) := by
  refine does_of Try.func100 Try.ntmps100 rfl ?_
  change Run _ _ _ _ [.pointer (some ⟨gp, 0, none⟩), undef, undef, undef, undef, undef, undef, undef, undef, undef, undef, undef, undef, undef, undef, undef, undef, undef, undef, undef, undef, undef, undef, undef, undef, undef, undef, undef, undef, undef, undef] _
  have H := H0
  refine run_seq ?_
  refine run_region ?_
  refine ops_val (ex_assign rfl) ?_
  refine ops_nil ?_
  change Run _ _ _ _ [_, _, _, _, _, _, _, _, _, _, _, _, _, _, _, _, _, _, _, _, _, _, _, _, _, _, _, _, _, _, _] _
  refine run_seq ?_
  refine run_seq ?_
  refine run_region ?_
  refine ops_val (ex_move rfl) ?_
  refine ops_val (ex_nilCheck rfl) ?_
  refine ops_val (ex_fieldAddr fl138_0 rfl) ?_
  refine ops_val (ex_load ty136 rfl (H.cell (i := 0) rfl rfl)) ?_
  change Ops _ _ _ _ _ _ [_, _, _, _, _, _, _, _, _, _, _, _, _, _, _, _, _, _, _, _, _, _, _, _, _, _, _, _, _, _, _] _
  refine ops_false (ex_eql_nil_ptr Try.underlying136 rfl) (by simp) ?_
  refine ops_nil ?_
  change Run _ _ _ _ [_, _, _, _, _, _, _, _, _, _, _, _, _, _, _, _, _, _, _, _, _, _, _, _, _, _, _, _, _, _, _] _
  refine run_cond_false rfl ?_
  refine run_skip ?_
  refine run_seq ?_
  refine run_region ?_
  refine ops_val (ex_move rfl) ?_
  refine ops_val (ex_nilCheck rfl) ?_
  refine ops_val (ex_fieldAddr fl138_0 rfl) ?_
  refine ops_val (ex_load ty136 rfl (H.cell (i := 0) rfl rfl)) ?_
  change Ops _ _ _ _ _ _ [_, _, _, _, _, _, _, _, _, _, _, _, _, _, _, _, _, _, _, _, _, _, _, _, _, _, _, _, _, _, _] _
  refine ops_call_val (ex_call gf136 rfl) (fault_rd gr (hd gb) cb b j 0 _ (rdr_of H (j := 1) (k := 2) rfl rfl (by decide) hcb (by omega) hj)) ?_
  intro w1 Hd
  have H1 := H.call0 Hd
  refine ops_val (ex_move rfl) ?_
  refine ops_val (ex_extract rfl rfl) ?_
  refine ops_val (ex_extract rfl rfl) ?_
  change Ops _ _ _ _ _ _ [_, _, _, _, _, _, _, _, _, _, _, _, _, _, _, _, _, _, _, _, _, _, _, _, _, _, _, _, _, _, _] _
  refine ops_val (ex_assign rfl) ?_
  refine ops_val (ex_assign rfl) ?_
  refine ops_nil ?_
  change Run _ _ _ _ [_, _, _, _, _, _, _, _, _, _, _, _, _, _, _, _, _, _, _, _, _, _, _, _, _, _, _, _, _, _, _] _
  refine run_seq ?_
  refine run_region ?_
  refine ops_val (ex_move rfl) ?_
  refine ops_false (ex_neq rfl rfl) (by simp) ?_
  refine ops_val (ex_move rfl) ?_
  change Ops _ _ _ _ _ _ [_, _, _, _, _, _, _, _, _, _, _, _, _, _, _, _, _, _, _, _, _, _, _, _, _, _, _, _, _, _, _] _
  refine ops_yes rfl ?_
  refine ops_val (ex_move rfl) ?_
  refine ops_yes rfl ?_
  refine ops_val (ex_nilCheck rfl) ?_
  change Ops _ _ _ _ _ _ [_, _, _, _, _, _, _, _, _, _, _, _, _, _, _, _, _, _, _, _, _, _, _, _, _, _, _, _, _, _, _] _
  refine ops_yes rfl ?_
  refine ops_val (ex_fieldAddr fl138_3 rfl) ?_
  refine ops_yes rfl ?_
  refine ops_val (ex_load ty29 rfl (H1.cell (i := 0) rfl rfl)) ?_
  change Ops _ _ _ _ _ _ [_, _, _, _, _, _, _, _, _, _, _, _, _, _, _, _, _, _, _, _, _, _, _, _, _, _, _, _, _, _, _] _
  refine ops_yes rfl ?_
  refine ops_true (ex_neq rfl rfl) (by omega) ?_
  refine ops_val (ex_pick_f rfl rfl) ?_
  refine ops_val (ex_assign rfl) ?_
  refine ops_nil ?_
  change Run _ _ _ _ [_, _, _, _, _, _, _, _, _, _, _, _, _, _, _, _, _, _, _, _, _, _, _, _, _, _, _, _, _, _, _] _
  refine run_ret ?_
  refine fin_ret1 rfl rfl ?_
  exact ⟨rfl, H1.pick [0, 1, 2] (by decide)⟩
set_option maxRecDepth 100000 in
set_option maxHeartbeats 4000000 in
theorem pbytes_bad (gp gr : Nat) (gb : Option Nat) (cb : Nat) (sb : List Value) (b : List UInt8) (j e : Nat) (go o : Nat) (U : TypeId) (cs : List Value) (w0 : World) (hj : j ≤ b.length) (hcb : b.length ≤ cb) (hbl : b.length ≤ 65536) (he : e ≠ 0) (H0 : Hp w0 w0 (bl (prB gp gr gb cb sb b j e ++ [(some go, U, cs)])) (prB gp gr gb cb sb b j e ++ [(some go, U, cs)])) :
    Does Try.prog 75 #[.pointer (some ⟨gp, 0, none⟩), .pointer (some ⟨go, o, none⟩)] w0 (fun _ w' => Hp w0 w' (bl (prB gp gr gb cb sb b j e ++ [(some go, U, cs)])) (prB gp gr gb cb sb b j e ++ [(some go, U, cs)])) := by
  refine does_of Try.func75 Try.ntmps75 rfl ?_
  change Run _ _ _ _ [.pointer (some ⟨gp, 0, none⟩), .pointer (some ⟨go, o, none⟩), undef, undef, undef, undef, undef, undef, undef, undef, undef, undef, undef, undef, undef, undef, undef, undef, undef, undef, undef, undef, undef, undef, undef, undef, undef, undef, undef, undef, undef, undef, undef, undef, undef] _
  have H := H0
  refine run_block ?_
  refine run_seq ?_
  refine run_region ?_
  refine ops_val (ex_move rfl) ?_
  have hk := pstop_b gp gr gb cb sb b j e _ (Hp.less (es := prB gp gr gb cb sb b j e) (R := [(some go, U, cs)]) H).here hcb hbl hj he
  refine ops_call_val (ex_call gf100 rfl) hk ?_
  intro w1 Hd
  have H1 := Hp.front (R := [(some go, U, cs)]) H Hd
  refine ops_val (ex_assign rfl) ?_
  refine ops_nil ?_
  change Run _ _ _ _ [_, _, _, _, _, _, _, _, _, _, _, _, _, _, _, _, _, _, _, _, _, _, _, _, _, _, _, _, _, _, _, _, _, _, _] _
  refine run_cond_true rfl ?_
  refine run_skip ?_
  refine run_nil (blk_normal ?_)
  refine run_nil ?_
  refine fin_end0 rfl ?_
  exact H1
set_option maxRecDepth 100000 in
set_option maxHeartbeats 4000000 in
theorem pword_r (gp gr : Nat) (gb : Option Nat) (cb : Nat) (sb : List Value) (b : List UInt8) (hcb : b.length ≤ cb) (hbl : b.length ≤ 65536) (go o i e : Nat) (U : TypeId) (cs : List Value) (w0 : World) (H0 : Hp w0 w0 (bl (pr gp gr gb cb sb b i e ++ [(some go, U, cs)])) (pr gp gr gb cb sb b i e ++ [(some go, U, cs)])) (hi : i ≤ b.length) (hat : At cs o (Th.flat [.word]).zs) (hfit : o + (Th.flat [.word]).sz ≤ cs.length) :
    Does Try.prog 138 #[.pointer (some ⟨gp, 0, none⟩), .pointer (some ⟨go, o, none⟩)] w0 (fun _ w' => RdOutB gp gr gb cb sb b (Th.flat [.word]) go o U cs i e w0.heap.size w0 (bl (pr gp gr gb cb sb b i e ++ [(some go, U, cs)])) w') := by
  refine does_of Try.func138 Try.ntmps138 rfl ?_
  change Run _ _ _ _ [.pointer (some ⟨gp, 0, none⟩), .pointer (some ⟨go, o, none⟩), undef, undef, undef, undef, undef, undef, undef, undef, undef, undef, undef, undef, undef, undef, undef, undef, undef, undef, undef, undef, undef, undef, undef, undef, undef, undef, undef, undef, undef, undef, undef, undef, undef] _
  have H := H0
  have hcq := hat 0 _ rfl
  rw [Nat.add_zero] at hcq
  change o + 1 ≤ cs.length at hfit
  have hrow : putAt cs o [Value.int .u32 0] = cs := putAt_same hat (by simpa using hfit)
  refine run_block ?_
  refine run_seq ?_
  refine run_region ?_
  refine ops_val (ex_move rfl) ?_
  have hk := pstop_r gp gr gb cb sb b i e _ (Hp.less (es := pr gp gr gb cb sb b i e) (R := [(some go, U, cs)]) H).here hcb hbl hi
  refine ops_call_val (ex_call gf100 rfl) hk ?_
  intro w1 Hd
  have H1 := Hp.front (R := [(some go, U, cs)]) H Hd
  refine ops_val (ex_assign rfl) ?_
  refine ops_nil ?_
  change Run _ _ _ _ [_, _, _, _, _, _, _, _, _, _, _, _, _, _, _, _, _, _, _, _, _, _, _, _, _, _, _, _, _, _, _, _, _, _, _] _
  refine run_cond rfl (fun hb19 => ?_) (fun hb19 => ?_)
  · have hbe : e ≠ 0 := by simpa using hb19
    refine run_skip ?_
    refine run_nil (blk_normal ?_)
    refine run_nil ?_
    refine fin_end0 rfl ?_
    have hrd : (Th.flat [.word]).rd b i e = ([.word 0], i, e) := by
      show ([Fv.word (wordStep b i e).1], (wordStep b i e).2) = _
      rw [wordStep_bad hbe]
    left
    unfold RdOut
    rw [hrd]
    exact ⟨[Value.int .u32 0], rfl, rfl, by rw [hrow]; exact H1, fun h => absurd h hbe⟩
  · have hbe : e = 0 := by simpa using hb19
    refine run_seq ?_
    refine run_region ?_
    refine ops_val (ex_move rfl) ?_
    refine ops_val (ex_nilCheck rfl) ?_
    refine ops_val (ex_fieldAddr fl138_0 rfl) ?_
    refine ops_val (ex_load ty136 rfl (H1.cell (i := 0) rfl rfl)) ?_
    change Ops _ _ _ _ _ _ [_, _, _, _, _, _, _, _, _, _, _, _, _, _, _, _, _, _, _, _, _, _, _, _, _, _, _, _, _, _, _, _, _, _, _] _
    refine ops_false (ex_eql_nil_ptr Try.underlying136 rfl) (by simp) ?_
    refine ops_val (ex_assign rfl) ?_
    refine ops_nil ?_
    change Run _ _ _ _ [_, _, _, _, _, _, _, _, _, _, _, _, _, _, _, _, _, _, _, _, _, _, _, _, _, _, _, _, _, _, _, _, _, _, _] _
    refine run_cond_false rfl ?_
    refine run_seq ?_
    refine run_region ?_
    refine ops_val (ex_move rfl) ?_
    refine ops_val (ex_nilCheck rfl) ?_
    refine ops_val (ex_fieldAddr fl138_0 rfl) ?_
    refine ops_val (ex_load ty136 rfl (H1.cell (i := 0) rfl rfl)) ?_
    change Ops _ _ _ _ _ _ [_, _, _, _, _, _, _, _, _, _, _, _, _, _, _, _, _, _, _, _, _, _, _, _, _, _, _, _, _, _, _, _, _, _, _] _
    refine ops_call_val (ex_call gf137 rfl) (num_rd gr (hd gb) cb b i e _ (rdr_of H1 (j := 1) (k := 2) rfl rfl (by decide) hcb (by omega) hi)) ?_
    intro w2 Hd
    have hlt := numStep_lt b i e
    have hle := numStep_le (b := b) (e := e) hi
    have hok := num_ok (b := b) (i := i) (e := e)
    have hws : wordStep b i e = if 4294967295 < (numStep b i e).1 then (0, i, 21) else numStep b i e := rfl
    obtain ⟨⟨v, i1, e1⟩, hns⟩ : ∃ s, numStep b i e = s := ⟨_, rfl⟩
    rw [hns] at hlt hle Hd hws hok
    simp only at hlt hle Hd hws hok
    have H2 := (H1.call1 (i := 1) rfl Hd).pick [0, 4, 2, 3] (by decide)
    rw [hns]
    refine ops_val (ex_assign rfl) ?_
    refine ops_nil ?_
    change Run _ _ _ _ [_, _, _, _, _, _, _, _, _, _, _, _, _, _, _, _, _, _, _, _, _, _, _, _, _, _, _, _, _, _, _, _, _, _, _] _
    refine run_seq ?_
    refine run_seq ?_
    refine run_region ?_
    refine ops_val (ex_move rfl) ?_
    refine ops_test (ex_gtr rfl rfl) (fun hp11 => ?_) (fun hp11 => ?_)
    · rw [if_pos (by omega)] at hws
      refine ops_nil ?_
      change Run _ _ _ _ [_, _, _, _, _, _, _, _, _, _, _, _, _, _, _, _, _, _, _, _, _, _, _, _, _, _, _, _, _, _, _, _, _, _, _] _
      refine run_cond_true rfl ?_
      refine run_seq ?_
      refine run_region ?_
      refine ops_val (ex_move rfl) ?_
      refine ops_val (ex_nilCheck rfl) ?_
      refine ops_val (ex_fieldAddr fl138_3 rfl) ?_
      refine ops_store1 ty29 H2 0 rfl rfl rfl rfl (by first | decide | simp) rfl ?_
      intro w3 H3
      refine ops_nil ?_
      change Run _ _ _ _ [_, _, _, _, _, _, _, _, _, _, _, _, _, _, _, _, _, _, _, _, _, _, _, _, _, _, _, _, _, _, _, _, _, _, _] _
      refine run_ret ?_
      refine blk_ret ?_
      refine fin_ret0 rfl ?_
      have hrd : (Th.flat [.word]).rd b i e = ([.word 0], i, 21) := by
        show ([Fv.word (wordStep b i e).1], (wordStep b i e).2) = _
        rw [hws]
      right
      unfold BadR
      rw [hrd]
      have he1 := hok (by omega)
      subst he1
      exact ⟨(by decide : (21 : Nat) ≠ 0), i1, [Value.int .u32 0], hle, rfl, by rw [hrow]; exact H3⟩
    · rw [if_neg (by omega)] at hws
      refine ops_nil ?_
      change Run _ _ _ _ [_, _, _, _, _, _, _, _, _, _, _, _, _, _, _, _, _, _, _, _, _, _, _, _, _, _, _, _, _, _, _, _, _, _, _] _
      refine run_cond_false rfl ?_
      refine run_skip ?_
      refine run_region ?_
      refine ops_val (ex_move rfl) ?_
      refine ops_val (ex_move rfl) ?_
      refine ops_val (ex_conv Try.underlying68 Try.underlying222 rfl (IntWalk.u32_in _ (by omega))) ?_
      refine ops_val (ex_nilCheck rfl) ?_
      change Ops _ _ _ _ _ _ [_, _, _, _, _, _, _, _, _, _, _, _, _, _, _, _, _, _, _, _, _, _, _, _, _, _, _, _, _, _, _, _, _, _, _] _
      refine ops_store1 ty68 H2 3 rfl rfl rfl rfl (by omega) rfl ?_
      intro w3 H3
      refine ops_nil ?_
      change Run _ _ _ _ [_, _, _, _, _, _, _, _, _, _, _, _, _, _, _, _, _, _, _, _, _, _, _, _, _, _, _, _, _, _, _, _, _, _, _] _
      refine run_nil (blk_normal ?_)
      refine run_nil ?_
      refine fin_end0 rfl ?_
      have hrd : (Th.flat [.word]).rd b i e = ([.word v], i1, e1) := by
        show ([Fv.word (wordStep b i e).1], (wordStep b i e).2) = _
        rw [hws]
      left
      have hrow2 : cs.set o (Value.int .u32 (v : Int)) = putAt cs o [Value.int .u32 (v : Int)] := (putAt_one (by omega)).symm
      have h1 := H3
      rw [hrow2] at h1
      have HN := (show ∀ (wa wb : World) (SS : List Nat), Hp wa wb SS _ → Hp wa wb SS (pr gp gr gb cb sb b i1 e1 ++ [(some go, U, putAt cs o [Value.int .u32 (v : Int)])]) from fun _ _ _ h => h) _ _ _ h1
      unfold RdOut
      rw [hrd]
      exact ⟨[Value.int .u32 (v : Int)], rfl, rfl, HN, fun _ => ⟨rfl, FPs.one (f := .word v) ⟨rfl, by omega⟩⟩⟩
theorem pword_RB : PenRB Try.prog 138 (Th.flat [.word]) := pword_r
set_option maxRecDepth 100000 in
set_option maxHeartbeats 4000000 in
theorem ppiece_w (gp : Nat) (g : Option Nat) (cap : Nat) (sp : List Value) (st : WS) (a : Addr) (x : thpiece.X) (vs : List Value) (w0 : World) (H0 : Hp w0 w0 (bl (pw gp g cap sp st)) (pw gp g cap sp st)) (hP : POk 65536 g cap sp st) (hM : thpiece.M w0 (fun b => b ∉ bl (pw gp g cap sp st)) x vs) (hC : Cl w0 (bl (pw gp g cap sp st)) a vs) (htw : false = true → Thawed w0 a) :
    Does Try.prog 106 #[.pointer (some ⟨gp, 0, none⟩), .pointer (some a)] w0 (fun _ w' => PwOut gp (wAll (thpiece.fl x) st) w0 (bl (pw gp g cap sp st)) w') := by
  refine does_of Try.func106 Try.ntmps106 rfl ?_
  change Run _ _ _ _ [.pointer (some ⟨gp, 0, none⟩), .pointer (some a), undef, undef, undef, undef, undef, undef, undef, undef, undef, undef, undef, undef, undef, undef, undef, undef, undef, undef, undef, undef, undef] _
  have HS : WSt false gp a w0 (bl (pw gp g cap sp st)) w0 st thpiece x vs g cap sp := ⟨H0, hP, hM, hC, fun h => ⟨htw h, by have hl := thpiece.len hM; change vs.length = 4 at hl; omega⟩⟩
  have H := HS.H.here
  refine run_seq ?_
  refine run_mixZ 8 [(true, 0), (true, 1), (true, 2), (true, 3), (true, 4), (true, 5), (true, 6), (false, 7), (false, 8)] H [0, 1] mixed (by decide) (by kernel_rfl) ?_
  rintro w1 hw1
  have H1 := Hp.drew H; rw [← hw1] at H1
  refine mixz_p rfl ?_
  refine mix1_val (fun wz hz => ex_move rfl) ?_
  refine mixz_p rfl ?_
  refine mix1_val (fun wz hz => ex_move rfl) ?_
  refine mixz_p rfl ?_
  refine mix1_val (fun wz hz => ex_nilCheck rfl) ?_
  change MixZ _ _ _ _ _ _ [_, _, _, _, _, _, _, _, _, _, _, _, _, _, _, _, _, _, _, _, _, _, _] _
  refine mixz_p rfl ?_
  refine mix1_val (fun wz hz => ex_fieldAddrA fl70_0 rfl) ?_
  refine mixz_p rfl ?_
  refine mix1_val (fun wz hz => ex_move rfl) ?_
  refine mixz_p rfl ?_
  refine mix1_val (fun wz hz => ex_nilCheck rfl) ?_
  change MixZ _ _ _ _ _ _ [_, _, _, _, _, _, _, _, _, _, _, _, _, _, _, _, _, _, _, _, _, _, _] _
  refine mixz_p rfl ?_
  refine mix1_val (fun wz hz => ex_fieldAddrA fl70_1 rfl) ?_
  refine mixz_o rfl ?_
  refine ops_buildSlice Try.underlying177 ty126 H1 rfl (by decide) rfl ?_
  intro w2 g2 H2 hg2
  refine ops_nil ?_
  refine ⟨fun hne => H2.pick [0, 1] (by decide), ?_⟩
  change MixZ _ _ _ _ _ _ [_, _, _, _, _, _, _, _, _, _, _, _, _, _, _, _, _, _, _, _, _, _, _] _
  refine mixz_o rfl ?_
  refine ops_call (ex_call gf61 rfl) (HS.grp (o := 0) pint_W H2 (by decide) (fun _ _ hM => (Th.part hM 0 2)) (At.cast (At.trans (At.self _) (At.sub _ 0 2)) (by decide))) ?_
  rintro _ w3 ⟨g, cap, sp, HS⟩
  have H3 := HS.H.here
  refine ops_nil ?_
  refine ⟨fun hne => absurd rfl hne, ?_⟩
  change MixZ _ _ _ _ _ _ [_, _, _, _, _, _, _, _, _, _, _, _, _, _, _, _, _, _, _, _, _, _, _] _
  refine mixz_nil ?_
  change Run _ _ _ _ [_, _, _, _, _, _, _, _, _, _, _, _, _, _, _, _, _, _, _, _, _, _, _] _
  refine run_seq ?_
  refine run_region ?_
  refine ops_val (ex_move rfl) ?_
  refine ops_val (ex_move rfl) ?_
  refine ops_val (ex_nilCheck rfl) ?_
  change Ops _ _ _ _ _ _ [_, _, _, _, _, _, _, _, _, _, _, _, _, _, _, _, _, _, _, _, _, _, _] _
  refine ops_val (ex_fieldAddrA fl70_2 rfl) ?_
  refine ops_call (ex_call gf138 rfl) (HS.one (o := 2) pword_W (by decide) (fun _ _ hM => (Th.part hM 2 1)) (At.cast (At.trans (At.self _) (At.sub _ 2 1)) (by decide))) ?_
  rintro _ w4 ⟨g, cap, sp, HS⟩
  have H4 := HS.H.here
  refine ops_nil ?_
  change Run _ _ _ _ [_, _, _, _, _, _, _, _, _, _, _, _, _, _, _, _, _, _, _, _, _, _, _] _
  refine run_region ?_
  refine ops_val (ex_move rfl) ?_
  refine ops_val (ex_move rfl) ?_
  refine ops_val (ex_nilCheck rfl) ?_
  change Ops _ _ _ _ _ _ [_, _, _, _, _, _, _, _, _, _, _, _, _, _, _, _, _, _, _, _, _, _, _] _
  refine ops_val (ex_fieldAddrA fl70_3 rfl) ?_
  refine ops_call (ex_call gf75 rfl) (HS.one (o := 3) pbytes_W (by decide) (fun _ _ hM => (Th.part hM 3 1)) (At.cast (At.trans (At.self _) (At.sub _ 3 1)) (by decide))) ?_
  rintro _ w5 ⟨g, cap, sp, HS⟩
  have H5 := HS.H.here
  refine ops_nil ?_
  change Run _ _ _ _ [_, _, _, _, _, _, _, _, _, _, _, _, _, _, _, _, _, _, _, _, _, _, _] _
  refine run_nil ?_
  refine fin_end0 rfl ?_
  have hw0 : List.take 4 x = x := Th.whole hM
  refine HS.out ?_
  show _ = wAll (x) st
  simp only [List.drop_zero, wAll_part, wAll_append, Nat.reduceAdd, hw0]
theorem ppiece_W : PenW Try.prog 106 thpiece false := ppiece_w
set_option maxRecDepth 100000 in
set_option maxHeartbeats 4000000 in
theorem ppiece_r (gp gr : Nat) (gb : Option Nat) (cb : Nat) (sb : List Value) (b : List UInt8) (hcb : b.length ≤ cb) (hbl : b.length ≤ 65536) (go o i e : Nat) (U : TypeId) (cs : List Value) (w0 : World) (H0 : Hp w0 w0 (bl (pr gp gr gb cb sb b i e ++ [(some go, U, cs)])) (pr gp gr gb cb sb b i e ++ [(some go, U, cs)])) (hi : i ≤ b.length) (hat : At cs o thpiece.zs) (hfit : o + thpiece.sz ≤ cs.length) :
    Does Try.prog 106 #[.pointer (some ⟨gp, 0, none⟩), .pointer (some ⟨go, o, none⟩)] w0 (fun _ w' => RdOutB gp gr gb cb sb b thpiece go o U cs i e w0.heap.size w0 (bl (pr gp gr gb cb sb b i e ++ [(some go, U, cs)])) w') := by
  refine does_of Try.func106 Try.ntmps106 rfl ?_
  change Run _ _ _ _ [.pointer (some ⟨gp, 0, none⟩), .pointer (some ⟨go, o, none⟩), undef, undef, undef, undef, undef, undef, undef, undef, undef, undef, undef, undef, undef, undef, undef, undef, undef, undef, undef, undef, undef] _
  change o + 4 ≤ cs.length at hfit
  have HS := RSt.start (R := pr gp gr gb cb sb b) (o := o) H0 hi
  have H := HS.H.here
  refine run_seq ?_
  refine run_mixZ 8 [(true, 0), (true, 1), (true, 2), (true, 3), (true, 4), (true, 5), (true, 6), (false, 7), (false, 8)] H [0, 1, 2, 3] mixed (by decide) (by kernel_rfl) ?_
  rintro w1 hw1
  have H1 := Hp.drew H; rw [← hw1] at H1
  refine mixz_p rfl ?_
  refine mix1_val (fun wz hz => ex_move rfl) ?_
  refine mixz_p rfl ?_
  refine mix1_val (fun wz hz => ex_move rfl) ?_
  refine mixz_p rfl ?_
  refine mix1_val (fun wz hz => ex_nilCheck rfl) ?_
  change MixZ _ _ _ _ _ _ [_, _, _, _, _, _, _, _, _, _, _, _, _, _, _, _, _, _, _, _, _, _, _] _
  refine mixz_p rfl ?_
  refine mix1_val (fun wz hz => ex_fieldAddr fl70_0 rfl) ?_
  refine mixz_p rfl ?_
  refine mix1_val (fun wz hz => ex_move rfl) ?_
  refine mixz_p rfl ?_
  refine mix1_val (fun wz hz => ex_nilCheck rfl) ?_
  change MixZ _ _ _ _ _ _ [_, _, _, _, _, _, _, _, _, _, _, _, _, _, _, _, _, _, _, _, _, _, _] _
  refine mixz_p rfl ?_
  refine mix1_val (fun wz hz => ex_fieldAddr fl70_1 rfl) ?_
  refine mixz_o rfl ?_
  refine ops_buildSlice Try.underlying177 ty126 H1 rfl (by decide) rfl ?_
  intro w2 g2 H2 hg2
  refine ops_nil ?_
  refine ⟨fun hne => H2.pick [0, 1, 2, 3] (by decide), ?_⟩
  change MixZ _ _ _ _ _ _ [_, _, _, _, _, _, _, _, _, _, _, _, _, _, _, _, _, _, _, _, _, _, _] _
  refine mixz_o rfl ?_
  refine ops_call (ex_call gf61 rfl) (HS.grp (q := 0) (pint_R gp gr gb cb sb b hcb hbl) (by decide) H2 (by decide) (show o + 0 + 2 ≤ _ by omega) (At.cast (hat.trans (At.sub _ 0 2)) rfl) rfl rfl) ?_
  rintro _ w3 ⟨us, i1, e1, HS⟩
  replace HS := HS.join1
  have H3 := HS.H.here
  refine ops_nil ?_
  refine ⟨fun hne => absurd rfl hne, ?_⟩
  change MixZ _ _ _ _ _ _ [_, _, _, _, _, _, _, _, _, _, _, _, _, _, _, _, _, _, _, _, _, _, _] _
  refine mixz_nil ?_
  change Run _ _ _ _ [_, _, _, _, _, _, _, _, _, _, _, _, _, _, _, _, _, _, _, _, _, _, _] _
  refine run_seq ?_
  refine run_region ?_
  refine ops_val (ex_move rfl) ?_
  refine ops_val (ex_move rfl) ?_
  refine ops_val (ex_nilCheck rfl) ?_
  change Ops _ _ _ _ _ _ [_, _, _, _, _, _, _, _, _, _, _, _, _, _, _, _, _, _, _, _, _, _, _] _
  refine ops_val (ex_fieldAddr fl70_2 rfl) ?_
  refine ops_call (ex_call gf138 rfl) (HS.oneB (q := 2) pword_RB hcb hbl (by decide) (show o + 2 + 1 ≤ _ by omega) (At.cast (hat.trans (At.sub _ 2 1)) rfl)) ?_
  rintro _ w4 HB
  replace HB := HB.join1
  refine ops_nil ?_
  change Run _ _ _ _ [_, _, _, _, _, _, _, _, _, _, _, _, _, _, _, _, _, _, _, _, _, _, _] _
  refine run_region ?_
  refine ops_val (ex_move rfl) ?_
  refine ops_val (ex_move rfl) ?_
  refine ops_val (ex_nilCheck rfl) ?_
  change Ops _ _ _ _ _ _ [_, _, _, _, _, _, _, _, _, _, _, _, _, _, _, _, _, _, _, _, _, _, _] _
  refine ops_val (ex_fieldAddr fl70_3 rfl) ?_
  refine ops_call (ex_call gf75 rfl) (HB.bytes (q := 3) pbytes_R hcb hbl (by decide) (show o + 3 + 1 ≤ _ by omega) (At.cast (hat.trans (At.sub _ 3 1)) rfl) (fun j e U cs w hj he hh => pbytes_bad gp gr gb cb sb b j e go (o + 3) U cs w hj hcb hbl he hh)) ?_
  rintro _ w5 HB
  replace HB := HB.join1
  refine ops_nil ?_
  change Run _ _ _ _ [_, _, _, _, _, _, _, _, _, _, _, _, _, _, _, _, _, _, _, _, _, _, _] _
  refine run_nil ?_
  refine fin_end0 rfl ?_
  exact HB.out
theorem ppiece_RB : PenRB Try.prog 106 thpiece := ppiece_r
set_option maxRecDepth 100000 in
set_option maxHeartbeats 4000000 in
theorem pletter_w (gp : Nat) (g : Option Nat) (cap : Nat) (sp : List Value) (st : WS) (a : Addr) (x : thletter.X) (vs : List Value) (w0 : World) (H0 : Hp w0 w0 (bl (pw gp g cap sp st)) (pw gp g cap sp st)) (hP : POk 65536 g cap sp st) (hM : thletter.M w0 (fun b => b ∉ bl (pw gp g cap sp st)) x vs) (hC : Cl w0 (bl (pw gp g cap sp st)) a vs) (htw : false = true → Thawed w0 a) :
    Does Try.prog 62 #[.pointer (some ⟨gp, 0, none⟩), .pointer (some a)] w0 (fun _ w' => PwOut gp (wAll (thletter.fl x) st) w0 (bl (pw gp g cap sp st)) w') := by
  refine does_of Try.func62 Try.ntmps62 rfl ?_
  change Run _ _ _ _ [.pointer (some ⟨gp, 0, none⟩), .pointer (some a), undef, undef, undef, undef, undef, undef, undef, undef, undef, undef, undef, undef, undef, undef, undef, undef, undef, undef, undef, undef, undef, undef, undef, undef, undef, undef, undef, undef, undef, undef, undef, undef, undef, undef, undef, undef, undef, undef, undef, undef, undef, undef, undef, undef, undef, undef, undef] _
  have HS : WSt false gp a w0 (bl (pw gp g cap sp st)) w0 st thletter x vs g cap sp := ⟨H0, hP, hM, hC, fun h => ⟨htw h, by have hl := thletter.len hM; change vs.length = 13 at hl; omega⟩⟩
  have H := HS.H.here
  refine run_seq ?_
  refine run_mixZ 11 [(true, 0), (true, 1), (true, 2), (true, 3), (true, 4), (true, 5), (true, 6), (true, 7), (true, 8), (true, 9), (false, 10), (false, 11)] H [0, 1] mixed (by decide) (by kernel_rfl) ?_
  rintro w1 hw1
  have H1 := Hp.drew H; rw [← hw1] at H1
  refine mixz_p rfl ?_
  refine mix1_val (fun wz hz => ex_move rfl) ?_
  refine mixz_p rfl ?_
  refine mix1_val (fun wz hz => ex_move rfl) ?_
  refine mixz_p rfl ?_
  refine mix1_val (fun wz hz => ex_nilCheck rfl) ?_
  change MixZ _ _ _ _ _ _ [_, _, _, _, _, _, _, _, _, _, _, _, _, _, _, _, _, _, _, _, _, _, _, _, _, _, _, _, _, _, _, _, _, _, _, _, _, _, _, _, _, _, _, _, _, _, _, _, _] _
  refine mixz_p rfl ?_
  refine mix1_val (fun wz hz => ex_fieldAddrA fl72_0 rfl) ?_
  refine mixz_p rfl ?_
  refine mix1_val (fun wz hz => ex_move rfl) ?_
  refine mixz_p rfl ?_
  refine mix1_val (fun wz hz => ex_nilCheck rfl) ?_
  change MixZ _ _ _ _ _ _ [_, _, _, _, _, _, _, _, _, _, _, _, _, _, _, _, _, _, _, _, _, _, _, _, _, _, _, _, _, _, _, _, _, _, _, _, _, _, _, _, _, _, _, _, _, _, _, _, _] _
  refine mixz_p rfl ?_
  refine mix1_val (fun wz hz => ex_fieldAddrA fl72_1 rfl) ?_
  refine mixz_p rfl ?_
  refine mix1_val (fun wz hz => ex_move rfl) ?_
  refine mixz_p rfl ?_
  refine mix1_val (fun wz hz => ex_nilCheck rfl) ?_
  change MixZ _ _ _ _ _ _ [_, _, _, _, _, _, _, _, _, _, _, _, _, _, _, _, _, _, _, _, _, _, _, _, _, _, _, _, _, _, _, _, _, _, _, _, _, _, _, _, _, _, _, _, _, _, _, _, _] _
  refine mixz_p rfl ?_
  refine mix1_val (fun wz hz => ex_fieldAddrA fl72_2 rfl) ?_
  refine mixz_o rfl ?_
  refine ops_buildSlice Try.underlying177 ty126 H1 rfl (by decide) rfl ?_
  intro w2 g2 H2 hg2
  refine ops_nil ?_
  refine ⟨fun hne => H2.pick [0, 1] (by decide), ?_⟩
  change MixZ _ _ _ _ _ _ [_, _, _, _, _, _, _, _, _, _, _, _, _, _, _, _, _, _, _, _, _, _, _, _, _, _, _, _, _, _, _, _, _, _, _, _, _, _, _, _, _, _, _, _, _, _, _, _, _] _
  refine mixz_o rfl ?_
  refine ops_call (ex_call gf61 rfl) (HS.grp (o := 0) pint_W H2 (by decide) (fun _ _ hM => (Th.part (Th.fst (Th.fst (Th.fst hM))) 0 3)) (At.cast (At.trans (At.of_take (At.of_take (At.of_take (At.self _)))) (At.sub _ 0 3)) (by decide))) ?_
  rintro _ w3 ⟨g, cap, sp, HS⟩
  have H3 := HS.H.here
  refine ops_nil ?_
  refine ⟨fun hne => absurd rfl hne, ?_⟩
  change MixZ _ _ _ _ _ _ [_, _, _, _, _, _, _, _, _, _, _, _, _, _, _, _, _, _, _, _, _, _, _, _, _, _, _, _, _, _, _, _, _, _, _, _, _, _, _, _, _, _, _, _, _, _, _, _, _] _
  refine mixz_nil ?_
  change Run _ _ _ _ [_, _, _, _, _, _, _, _, _, _, _, _, _, _, _, _, _, _, _, _, _, _, _, _, _, _, _, _, _, _, _, _, _, _, _, _, _, _, _, _, _, _, _, _, _, _, _, _, _] _
  refine run_seq ?_
  refine run_region ?_
  refine ops_val (ex_move rfl) ?_
  refine ops_val (ex_move rfl) ?_
  refine ops_val (ex_nilCheck rfl) ?_
  change Ops _ _ _ _ _ _ [_, _, _, _, _, _, _, _, _, _, _, _, _, _, _, _, _, _, _, _, _, _, _, _, _, _, _, _, _, _, _, _, _, _, _, _, _, _, _, _, _, _, _, _, _, _, _, _, _] _
  refine ops_val (ex_fieldAddrA fl72_3 rfl) ?_
  refine ops_call (ex_call gf85 rfl) (HS.one (o := 3) pballot_W (by decide) (fun _ _ hM => (Th.part (Th.fst (Th.fst (Th.fst hM))) 3 2)) (At.cast (At.trans (At.of_take (At.of_take (At.of_take (At.self _)))) (At.sub _ 3 2)) (by decide))) ?_
  rintro _ w4 ⟨g, cap, sp, HS⟩
  have H4 := HS.H.here
  refine ops_nil ?_
  change Run _ _ _ _ [_, _, _, _, _, _, _, _, _, _, _, _, _, _, _, _, _, _, _, _, _, _, _, _, _, _, _, _, _, _, _, _, _, _, _, _, _, _, _, _, _, _, _, _, _, _, _, _, _] _
  refine run_seq ?_
  refine run_mixZ 8 [(true, 0), (true, 1), (true, 2), (true, 3), (true, 4), (true, 5), (true, 6), (false, 7), (false, 8)] H4 [0, 1] mixed (by decide) (by kernel_rfl) ?_
  rintro w5 hw5
  have H5 := Hp.drew H4; rw [← hw5] at H5
  refine mixz_p rfl ?_
  refine mix1_val (fun wz hz => ex_move rfl) ?_
  refine mixz_p rfl ?_
  refine mix1_val (fun wz hz => ex_move rfl) ?_
  refine mixz_p rfl ?_
  refine mix1_val (fun wz hz => ex_nilCheck rfl) ?_
  change MixZ _ _ _ _ _ _ [_, _, _, _, _, _, _, _, _, _, _, _, _, _, _, _, _, _, _, _, _, _, _, _, _, _, _, _, _, _, _, _, _, _, _, _, _, _, _, _, _, _, _, _, _, _, _, _, _] _
  refine mixz_p rfl ?_
  refine mix1_val (fun wz hz => ex_fieldAddrA fl72_4 rfl) ?_
  refine mixz_p rfl ?_
  refine mix1_val (fun wz hz => ex_move rfl) ?_
  refine mixz_p rfl ?_
  refine mix1_val (fun wz hz => ex_nilCheck rfl) ?_
  change MixZ _ _ _ _ _ _ [_, _, _, _, _, _, _, _, _, _, _, _, _, _, _, _, _, _, _, _, _, _, _, _, _, _, _, _, _, _, _, _, _, _, _, _, _, _, _, _, _, _, _, _, _, _, _, _, _] _
  refine mixz_p rfl ?_
  refine mix1_val (fun wz hz => ex_fieldAddrA fl72_5 rfl) ?_
  refine mixz_o rfl ?_
  refine ops_buildSlice Try.underlying177 ty126 H5 rfl (by decide) rfl ?_
  intro w6 g6 H6 hg6
  refine ops_nil ?_
  refine ⟨fun hne => H6.pick [0, 1] (by decide), ?_⟩
  change MixZ _ _ _ _ _ _ [_, _, _, _, _, _, _, _, _, _, _, _, _, _, _, _, _, _, _, _, _, _, _, _, _, _, _, _, _, _, _, _, _, _, _, _, _, _, _, _, _, _, _, _, _, _, _, _, _] _
  refine mixz_o rfl ?_
  refine ops_call (ex_call gf61 rfl) (HS.grp (o := 5) pint_W H6 (by decide) (fun _ _ hM => (Th.part (Th.fst (Th.fst (Th.fst hM))) 5 2)) (At.cast (At.trans (At.of_take (At.of_take (At.of_take (At.self _)))) (At.sub _ 5 2)) (by decide))) ?_
  rintro _ w7 ⟨g, cap, sp, HS⟩
  have H7 := HS.H.here
  refine ops_nil ?_
  refine ⟨fun hne => absurd rfl hne, ?_⟩
  change MixZ _ _ _ _ _ _ [_, _, _, _, _, _, _, _, _, _, _, _, _, _, _, _, _, _, _, _, _, _, _, _, _, _, _, _, _, _, _, _, _, _, _, _, _, _, _, _, _, _, _, _, _, _, _, _, _] _
  refine mixz_nil ?_
  change Run _ _ _ _ [_, _, _, _, _, _, _, _, _, _, _, _, _, _, _, _, _, _, _, _, _, _, _, _, _, _, _, _, _, _, _, _, _, _, _, _, _, _, _, _, _, _, _, _, _, _, _, _, _] _
  refine run_seq ?_
  refine run_region ?_
  refine ops_val (ex_move rfl) ?_
  refine ops_val (ex_move rfl) ?_
  refine ops_val (ex_nilCheck rfl) ?_
  change Ops _ _ _ _ _ _ [_, _, _, _, _, _, _, _, _, _, _, _, _, _, _, _, _, _, _, _, _, _, _, _, _, _, _, _, _, _, _, _, _, _, _, _, _, _, _, _, _, _, _, _, _, _, _, _, _] _
  refine ops_val (ex_fieldAddrA fl72_6 rfl) ?_
  refine ops_val (ex_move rfl) ?_
  refine ops_val (ex_makeFunc rfl rfl) ?_
  change Ops _ _ _ _ _ _ [_, _, _, _, _, _, _, _, _, _, _, _, _, _, _, _, _, _, _, _, _, _, _, _, _, _, _, _, _, _, _, _, _, _, _, _, _, _, _, _, _, _, _, _, _, _, _, _, _] _
  refine ops_call (ex_call gf104 rfl) (HS.lst (o := 7) plvote_W (fun _ _ hM => (Th.snd (Th.fst (Th.fst hM)))) (At.cast (At.of_take (At.of_take (At.drop _ _))) (by decide))) ?_
  rintro _ w8 ⟨g, cap, sp, HS⟩
  have H8 := HS.H.here
  refine ops_nil ?_
  change Run _ _ _ _ [_, _, _, _, _, _, _, _, _, _, _, _, _, _, _, _, _, _, _, _, _, _, _, _, _, _, _, _, _, _, _, _, _, _, _, _, _, _, _, _, _, _, _, _, _, _, _, _, _] _
  refine run_seq ?_
  refine run_region ?_
  refine ops_val (ex_move rfl) ?_
  refine ops_val (ex_move rfl) ?_
  refine ops_val (ex_nilCheck rfl) ?_
  change Ops _ _ _ _ _ _ [_, _, _, _, _, _, _, _, _, _, _, _, _, _, _, _, _, _, _, _, _, _, _, _, _, _, _, _, _, _, _, _, _, _, _, _, _, _, _, _, _, _, _, _, _, _, _, _, _] _
  refine ops_val (ex_fieldAddrA fl72_7 rfl) ?_
  refine ops_val (ex_move rfl) ?_
  refine ops_val (ex_makeFunc rfl rfl) ?_
  change Ops _ _ _ _ _ _ [_, _, _, _, _, _, _, _, _, _, _, _, _, _, _, _, _, _, _, _, _, _, _, _, _, _, _, _, _, _, _, _, _, _, _, _, _, _, _, _, _, _, _, _, _, _, _, _, _] _
  refine ops_call (ex_call gf105 rfl) (HS.lst (o := 8) plentry_W (fun _ _ hM => (Th.snd (Th.fst hM))) (At.cast (At.of_take (At.drop _ _)) (by decide))) ?_
  rintro _ w9 ⟨g, cap, sp, HS⟩
  have H9 := HS.H.here
  refine ops_nil ?_
  change Run _ _ _ _ [_, _, _, _, _, _, _, _, _, _, _, _, _, _, _, _, _, _, _, _, _, _, _, _, _, _, _, _, _, _, _, _, _, _, _, _, _, _, _, _, _, _, _, _, _, _, _, _, _] _
  refine run_region ?_
  refine ops_val (ex_move rfl) ?_
  refine ops_val (ex_move rfl) ?_
  refine ops_val (ex_nilCheck rfl) ?_
  change Ops _ _ _ _ _ _ [_, _, _, _, _, _, _, _, _, _, _, _, _, _, _, _, _, _, _, _, _, _, _, _, _, _, _, _, _, _, _, _, _, _, _, _, _, _, _, _, _, _, _, _, _, _, _, _, _] _
  refine ops_val (ex_fieldAddrA fl72_8 rfl) ?_
  refine ops_call (ex_call gf106 rfl) (HS.one (o := 9) ppiece_W (by decide) (fun _ _ hM => (Th.part (Th.snd hM) 0 4)) (At.cast (At.trans (At.drop _ _) (At.sub _ 0 4)) (by decide))) ?_
  rintro _ w10 ⟨g, cap, sp, HS⟩
  have H10 := HS.H.here
  refine ops_nil ?_
  change Run _ _ _ _ [_, _, _, _, _, _, _, _, _, _, _, _, _, _, _, _, _, _, _, _, _, _, _, _, _, _, _, _, _, _, _, _, _, _, _, _, _, _, _, _, _, _, _, _, _, _, _, _, _] _
  refine run_nil ?_
  refine fin_end0 rfl ?_
  have hw0 : List.take 7 x.1.1.1 = x.1.1.1 := Th.whole (Th.fst (Th.fst (Th.fst hM)))
  have hw3 : List.take 4 x.2 = x.2 := Th.whole (Th.snd hM)
  refine HS.out ?_
  show _ = wAll (x.1.1.1 ++ (Th.many thvote false).fl x.1.1.2 ++ (Th.many thentry false).fl x.1.2 ++ x.2) st
  simp only [List.drop_zero, wAll_part, wAll_append, Nat.reduceAdd, hw0, hw3]
theorem pletter_W : PenW Try.prog 62 thletter false := pletter_w
set_option maxRecDepth 100000 in
set_option maxHeartbeats 4000000 in
theorem pletter_r (gp gr : Nat) (gb : Option Nat) (cb : Nat) (sb : List Value) (b : List UInt8) (hcb : b.length ≤ cb) (hbl : b.length ≤ 65536) (go o i e : Nat) (U : TypeId) (cs : List Value) (w0 : World) (H0 : Hp w0 w0 (bl (pr gp gr gb cb sb b i e ++ [(some go, U, cs)])) (pr gp gr gb cb sb b i e ++ [(some go, U, cs)])) (hi : i ≤ b.length) (hat : At cs o thletter.zs) (hfit : o + thletter.sz ≤ cs.length) :
    Does Try.prog 62 #[.pointer (some ⟨gp, 0, none⟩), .pointer (some ⟨go, o, none⟩)] w0 (fun _ w' => RdOutB gp gr gb cb sb b thletter go o U cs i e w0.heap.size w0 (bl (pr gp gr gb cb sb b i e ++ [(some go, U, cs)])) w') := by
  refine does_of Try.func62 Try.ntmps62 rfl ?_
  change Run _ _ _ _ [.pointer (some ⟨gp, 0, none⟩), .pointer (some ⟨go, o, none⟩), undef, undef, undef, undef, undef, undef, undef, undef, undef, undef, undef, undef, undef, undef, undef, undef, undef, undef, undef, undef, undef, undef, undef, undef, undef, undef, undef, undef, undef, undef, undef, undef, undef, undef, undef, undef, undef, undef, undef, undef, undef, undef, undef, undef, undef, undef, undef] _
  change o + 13 ≤ cs.length at hfit
  have HS := RSt.start (R := pr gp gr gb cb sb b) (o := o) H0 hi
  have H := HS.H.here
  refine run_seq ?_
  refine run_mixZ 11 [(true, 0), (true, 1), (true, 2), (true, 3), (true, 4), (true, 5), (true, 6), (true, 7), (true, 8), (true, 9), (false, 10), (false, 11)] H [0, 1, 2, 3] mixed (by decide) (by kernel_rfl) ?_
  rintro w1 hw1
  have H1 := Hp.drew H; rw [← hw1] at H1
  refine mixz_p rfl ?_
  refine mix1_val (fun wz hz => ex_move rfl) ?_
  refine mixz_p rfl ?_
  refine mix1_val (fun wz hz => ex_move rfl) ?_
  refine mixz_p rfl ?_
  refine mix1_val (fun wz hz => ex_nilCheck rfl) ?_
  change MixZ _ _ _ _ _ _ [_, _, _, _, _, _, _, _, _, _, _, _, _, _, _, _, _, _, _, _, _, _, _, _, _, _, _, _, _, _, _, _, _, _, _, _, _, _, _, _, _, _, _, _, _, _, _, _, _] _
  refine mixz_p rfl ?_
  refine mix1_val (fun wz hz => ex_fieldAddr fl72_0 rfl) ?_
  refine mixz_p rfl ?_
  refine mix1_val (fun wz hz => ex_move rfl) ?_
  refine mixz_p rfl ?_
  refine mix1_val (fun wz hz => ex_nilCheck rfl) ?_
  change MixZ _ _ _ _ _ _ [_, _, _, _, _, _, _, _, _, _, _, _, _, _, _, _, _, _, _, _, _, _, _, _, _, _, _, _, _, _, _, _, _, _, _, _, _, _, _, _, _, _, _, _, _, _, _, _, _] _
  refine mixz_p rfl ?_
  refine mix1_val (fun wz hz => ex_fieldAddr fl72_1 rfl) ?_
  refine mixz_p rfl ?_
  refine mix1_val (fun wz hz => ex_move rfl) ?_
  refine mixz_p rfl ?_
  refine mix1_val (fun wz hz => ex_nilCheck rfl) ?_
  change MixZ _ _ _ _ _ _ [_, _, _, _, _, _, _, _, _, _, _, _, _, _, _, _, _, _, _, _, _, _, _, _, _, _, _, _, _, _, _, _, _, _, _, _, _, _, _, _, _, _, _, _, _, _, _, _, _] _
  refine mixz_p rfl ?_
  refine mix1_val (fun wz hz => ex_fieldAddr fl72_2 rfl) ?_
  refine mixz_o rfl ?_
  refine ops_buildSlice Try.underlying177 ty126 H1 rfl (by decide) rfl ?_
  intro w2 g2 H2 hg2
  refine ops_nil ?_
  refine ⟨fun hne => H2.pick [0, 1, 2, 3] (by decide), ?_⟩
  change MixZ _ _ _ _ _ _ [_, _, _, _, _, _, _, _, _, _, _, _, _, _, _, _, _, _, _, _, _, _, _, _, _, _, _, _, _, _, _, _, _, _, _, _, _, _, _, _, _, _, _, _, _, _, _, _, _] _
  refine mixz_o rfl ?_
  refine ops_call (ex_call gf61 rfl) (HS.grp (q := 0) (pint_R gp gr gb cb sb b hcb hbl) (by decide) H2 (by decide) (show o + 0 + 3 ≤ _ by omega) (At.cast (hat.trans (At.sub _ 0 3)) rfl) rfl rfl) ?_
  rintro _ w3 ⟨us, i1, e1, HS⟩
  replace HS := HS.join1
  have H3 := HS.H.here
  refine ops_nil ?_
  refine ⟨fun hne => absurd rfl hne, ?_⟩
  change MixZ _ _ _ _ _ _ [_, _, _, _, _, _, _, _, _, _, _, _, _, _, _, _, _, _, _, _, _, _, _, _, _, _, _, _, _, _, _, _, _, _, _, _, _, _, _, _, _, _, _, _, _, _, _, _, _] _
  refine mixz_nil ?_
  change Run _ _ _ _ [_, _, _, _, _, _, _, _, _, _, _, _, _, _, _, _, _, _, _, _, _, _, _, _, _, _, _, _, _, _, _, _, _, _, _, _, _, _, _, _, _, _, _, _, _, _, _, _, _] _
  refine run_seq ?_
  refine run_region ?_
  refine ops_val (ex_move rfl) ?_
  refine ops_val (ex_move rfl) ?_
  refine ops_val (ex_nilCheck rfl) ?_
  change Ops _ _ _ _ _ _ [_, _, _, _, _, _, _, _, _, _, _, _, _, _, _, _, _, _, _, _, _, _, _, _, _, _, _, _, _, _, _, _, _, _, _, _, _, _, _, _, _, _, _, _, _, _, _, _, _] _
  refine ops_val (ex_fieldAddr fl72_3 rfl) ?_
  refine ops_call (ex_call gf85 rfl) (HS.one (q := 3) (pballot_R gp gr gb cb sb b hcb hbl) (by decide) (show o + 3 + 2 ≤ _ by omega) (At.cast (hat.trans (At.sub _ 3 2)) rfl)) ?_
  rintro _ w4 ⟨us, i1, e1, HS⟩
  replace HS := HS.join1
  have H4 := HS.H.here
  refine ops_nil ?_
  change Run _ _ _ _ [_, _, _, _, _, _, _, _, _, _, _, _, _, _, _, _, _, _, _, _, _, _, _, _, _, _, _, _, _, _, _, _, _, _, _, _, _, _, _, _, _, _, _, _, _, _, _, _, _] _
  refine run_seq ?_
  refine run_mixZ 8 [(true, 0), (true, 1), (true, 2), (true, 3), (true, 4), (true, 5), (true, 6), (false, 7), (false, 8)] H4 [0, 1, 2, 3] mixed (by decide) (by kernel_rfl) ?_
  rintro w5 hw5
  have H5 := Hp.drew H4; rw [← hw5] at H5
  refine mixz_p rfl ?_
  refine mix1_val (fun wz hz => ex_move rfl) ?_
  refine mixz_p rfl ?_
  refine mix1_val (fun wz hz => ex_move rfl) ?_
  refine mixz_p rfl ?_
  refine mix1_val (fun wz hz => ex_nilCheck rfl) ?_
  change MixZ _ _ _ _ _ _ [_, _, _, _, _, _, _, _, _, _, _, _, _, _, _, _, _, _, _, _, _, _, _, _, _, _, _, _, _, _, _, _, _, _, _, _, _, _, _, _, _, _, _, _, _, _, _, _, _] _
  refine mixz_p rfl ?_
  refine mix1_val (fun wz hz => ex_fieldAddr fl72_4 rfl) ?_
  refine mixz_p rfl ?_
  refine mix1_val (fun wz hz => ex_move rfl) ?_
  refine mixz_p rfl ?_
  refine mix1_val (fun wz hz => ex_nilCheck rfl) ?_
  change MixZ _ _ _ _ _ _ [_, _, _, _, _, _, _, _, _, _, _, _, _, _, _, _, _, _, _, _, _, _, _, _, _, _, _, _, _, _, _, _, _, _, _, _, _, _, _, _, _, _, _, _, _, _, _, _, _] _
  refine mixz_p rfl ?_
  refine mix1_val (fun wz hz => ex_fieldAddr fl72_5 rfl) ?_
  refine mixz_o rfl ?_
  refine ops_buildSlice Try.underlying177 ty126 H5 rfl (by decide) rfl ?_
  intro w6 g6 H6 hg6
  refine ops_nil ?_
  refine ⟨fun hne => H6.pick [0, 1, 2, 3] (by decide), ?_⟩
  change MixZ _ _ _ _ _ _ [_, _, _, _, _, _, _, _, _, _, _, _, _, _, _, _, _, _, _, _, _, _, _, _, _, _, _, _, _, _, _, _, _, _, _, _, _, _, _, _, _, _, _, _, _, _, _, _, _] _
  refine mixz_o rfl ?_
  refine ops_call (ex_call gf61 rfl) (HS.grp (q := 5) (pint_R gp gr gb cb sb b hcb hbl) (by decide) H6 (by decide) (show o + 5 + 2 ≤ _ by omega) (At.cast (hat.trans (At.sub _ 5 2)) rfl) rfl rfl) ?_
  rintro _ w7 ⟨us, i1, e1, HS⟩
  replace HS := HS.join1
  have H7 := HS.H.here
  refine ops_nil ?_
  refine ⟨fun hne => absurd rfl hne, ?_⟩
  change MixZ _ _ _ _ _ _ [_, _, _, _, _, _, _, _, _, _, _, _, _, _, _, _, _, _, _, _, _, _, _, _, _, _, _, _, _, _, _, _, _, _, _, _, _, _, _, _, _, _, _, _, _, _, _, _, _] _
  refine mixz_nil ?_
  change Run _ _ _ _ [_, _, _, _, _, _, _, _, _, _, _, _, _, _, _, _, _, _, _, _, _, _, _, _, _, _, _, _, _, _, _, _, _, _, _, _, _, _, _, _, _, _, _, _, _, _, _, _, _] _
  refine run_seq ?_
  refine run_region ?_
  refine ops_val (ex_move rfl) ?_
  refine ops_val (ex_move rfl) ?_
  refine ops_val (ex_nilCheck rfl) ?_
  change Ops _ _ _ _ _ _ [_, _, _, _, _, _, _, _, _, _, _, _, _, _, _, _, _, _, _, _, _, _, _, _, _, _, _, _, _, _, _, _, _, _, _, _, _, _, _, _, _, _, _, _, _, _, _, _, _] _
  refine ops_val (ex_fieldAddr fl72_6 rfl) ?_
  refine ops_val (ex_move rfl) ?_
  refine ops_val (ex_makeFunc rfl rfl) ?_
  change Ops _ _ _ _ _ _ [_, _, _, _, _, _, _, _, _, _, _, _, _, _, _, _, _, _, _, _, _, _, _, _, _, _, _, _, _, _, _, _, _, _, _, _, _, _, _, _, _, _, _, _, _, _, _, _, _] _
  refine ops_call (ex_call gf104 rfl) (HS.lst (q := 7) plvote_R hcb hbl (by decide) (show o + 7 + 1 ≤ _ by omega) (At.cast (hat.trans (At.sub _ 7 1)) rfl)) ?_
  rintro _ w8 ⟨us, i1, e1, HS⟩
  have H8 := HS.H.here
  refine ops_nil ?_
  change Run _ _ _ _ [_, _, _, _, _, _, _, _, _, _, _, _, _, _, _, _, _, _, _, _, _, _, _, _, _, _, _, _, _, _, _, _, _, _, _, _, _, _, _, _, _, _, _, _, _, _, _, _, _] _
  refine run_seq ?_
  refine run_region ?_
  refine ops_val (ex_move rfl) ?_
  refine ops_val (ex_move rfl) ?_
  refine ops_val (ex_nilCheck rfl) ?_
  change Ops _ _ _ _ _ _ [_, _, _, _, _, _, _, _, _, _, _, _, _, _, _, _, _, _, _, _, _, _, _, _, _, _, _, _, _, _, _, _, _, _, _, _, _, _, _, _, _, _, _, _, _, _, _, _, _] _
  refine ops_val (ex_fieldAddr fl72_7 rfl) ?_
  refine ops_val (ex_move rfl) ?_
  refine ops_val (ex_makeFunc rfl rfl) ?_
  change Ops _ _ _ _ _ _ [_, _, _, _, _, _, _, _, _, _, _, _, _, _, _, _, _, _, _, _, _, _, _, _, _, _, _, _, _, _, _, _, _, _, _, _, _, _, _, _, _, _, _, _, _, _, _, _, _] _
  refine ops_call (ex_call gf105 rfl) (HS.lst (q := 8) plentry_R hcb hbl (by decide) (show o + 8 + 1 ≤ _ by omega) (At.cast (hat.trans (At.sub _ 8 1)) rfl)) ?_
  rintro _ w9 ⟨us, i1, e1, HS⟩
  have H9 := HS.H.here
  refine ops_nil ?_
  change Run _ _ _ _ [_, _, _, _, _, _, _, _, _, _, _, _, _, _, _, _, _, _, _, _, _, _, _, _, _, _, _, _, _, _, _, _, _, _, _, _, _, _, _, _, _, _, _, _, _, _, _, _, _] _
  refine run_region ?_
  refine ops_val (ex_move rfl) ?_
  refine ops_val (ex_move rfl) ?_
  refine ops_val (ex_nilCheck rfl) ?_
  change Ops _ _ _ _ _ _ [_, _, _, _, _, _, _, _, _, _, _, _, _, _, _, _, _, _, _, _, _, _, _, _, _, _, _, _, _, _, _, _, _, _, _, _, _, _, _, _, _, _, _, _, _, _, _, _, _] _
  refine ops_val (ex_fieldAddr fl72_8 rfl) ?_
  refine ops_call (ex_call gf106 rfl) (HS.oneB (q := 9) ppiece_RB hcb hbl (by decide) (show o + 9 + 4 ≤ _ by omega) (At.cast (hat.trans (At.sub _ 9 4)) rfl)) ?_
  rintro _ w10 HB
  refine ops_nil ?_
  change Run _ _ _ _ [_, _, _, _, _, _, _, _, _, _, _, _, _, _, _, _, _, _, _, _, _, _, _, _, _, _, _, _, _, _, _, _, _, _, _, _, _, _, _, _, _, _, _, _, _, _, _, _, _] _
  refine run_nil ?_
  refine fin_end0 rfl ?_
  exact HB.out
theorem pletter_RB : PenRB Try.prog 62 thletter := pletter_r
end Go.Proofs.Ytoeobicpdeklaaa
