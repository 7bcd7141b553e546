/- Walks of layer 2, printed by wip/gen/codec.py. -/
import Derived.Test.YtoeobicpdeklaaaWireD
import Derived.Test.YtoeobicpdeklaaaWireT
import Derived.Test.YtoeobicpdeklaaaGet
namespace Go.Proofs.Ytoeobicpdeklaaa
open Go Go.RowKit
set_option linter.unusedVariables false
attribute [local irreducible] Still Ops Does Cd
set_option maxRecDepth 100000 in
set_option maxHeartbeats 4000000 in
theorem vsum_w (gp go o : Nat) (g : Option Nat) (cap : Nat) (sp : List Value) (st : WS) (U : TypeId) (cs : List Value) (x : List Fv) (vs : List Value) (w0 : World) (m : Nat) (a : WS) (H0 : Hp w0 w0 (bl (vwo gp g cap sp st go U cs)) (vwo gp g cap sp st go U cs)) (hm : m + (Th.flat [.word]).mx ≤ 1000000000) (hP : POk m g cap sp st) (ha : Alike a st) (hM : (Th.flat [.word]).M w0 (fun b => b ∉ bl (vwo gp g cap sp st go U cs)) x vs) (hat : At cs o vs) :
    Does Try.prog 139 #[.pointer (some ⟨gp, 0, none⟩), .pointer (some ⟨go, o, none⟩)] w0 (fun _ w' => VwOut (m + (Th.flat [.word]).mx) gp (wAll ((Th.flat [.word]).fl x) a) go U cs w0 (bl (vwo gp g cap sp st go U cs)) w') := by
  refine does_of Try.func139 Try.ntmps139 rfl ?_
  change Run _ _ _ _ [.pointer (some ⟨gp, 0, none⟩), .pointer (some ⟨go, o, none⟩), undef, undef, undef, undef, undef, undef, undef, undef, undef, undef, undef, undef, undef, undef, undef, undef, undef, undef, undef, undef, undef, undef, undef, undef, undef, undef, undef, undef, undef, undef, undef, undef, undef, undef, undef, undef, undef, undef, undef, undef, undef, undef, undef, undef, undef, undef, undef, undef, undef, undef, undef, undef, undef] _
  have H := H0
  change m + 65545 ≤ 1000000000 at hm
  obtain ⟨n, rfl⟩ := one_word hM.1
  obtain ⟨v, rfl, hv⟩ := hM.2.head
  obtain ⟨rfl, hn⟩ := hv
  have hcq : cs[o]? = some (.int .u32 n) := by have := hat 0 _ rfl; rwa [Nat.add_zero] at this
  have hxl := enc_len64 (v := n) (by omega)
  have hmost := hP.most
  refine run_seq ?_
  refine run_seq ?_
  refine run_region ?_
  refine ops_val (ex_move rfl) ?_
  refine ops_val (ex_nilCheck rfl) ?_
  refine ops_val (ex_fieldAddr fl102_1 rfl) ?_
  refine ops_val (ex_load ty100 rfl (H.cell (i := 0) rfl rfl)) ?_
  change Ops _ _ _ _ _ _ [_, _, _, _, _, _, _, _, _, _, _, _, _, _, _, _, _, _, _, _, _, _, _, _, _, _, _, _, _, _, _, _, _, _, _, _, _, _, _, _, _, _, _, _, _, _, _, _, _, _, _, _, _, _, _] _
  refine ops_true (ex_eql_nil_ptr Try.underlying100 rfl) (rfl) ?_
  refine ops_nil ?_
  change Run _ _ _ _ [_, _, _, _, _, _, _, _, _, _, _, _, _, _, _, _, _, _, _, _, _, _, _, _, _, _, _, _, _, _, _, _, _, _, _, _, _, _, _, _, _, _, _, _, _, _, _, _, _, _, _, _, _, _, _] _
  refine run_cond_true rfl ?_
  refine run_seq ?_
  refine run_mixZ 13 [(true, 0), (true, 1), (true, 2), (true, 3), (true, 4), (true, 5), (true, 6), (true, 7), (true, 8), (false, 9), (false, 10), (true, 11), (true, 12), (false, 13)] H [0, 2] mixed (by decide) (by kernel_rfl) ?_
  rintro w1 hw1
  have H1 := Hp.drew H; rw [← hw1] at H1
  refine mixz_p rfl ?_
  refine mix1_val (fun wz hz => ex_move rfl) ?_
  refine mixz_p rfl ?_
  refine mix1_val (fun wz hz => ex_move rfl) ?_
  refine mixz_p rfl ?_
  refine mix1_val (fun wz hz => ex_nilCheck rfl) ?_
  refine mixz_p rfl ?_
  refine mix1_val (fun wz hz => ex_fieldAddr fl102_0 rfl) ?_
  change MixZ _ _ _ _ _ _ [_, _, _, _, _, _, _, _, _, _, _, _, _, _, _, _, _, _, _, _, _, _, _, _, _, _, _, _, _, _, _, _, _, _, _, _, _, _, _, _, _, _, _, _, _, _, _, _, _, _, _, _, _, _, _] _
  refine mixz_p rfl ?_
  refine mix1_val (fun wz hz => ex_load ty26 rfl (hz.cell (i := 0) rfl rfl)) ?_
  refine mixz_p rfl ?_
  refine mix1_val (fun wz hz => ex_move rfl) ?_
  refine mixz_p rfl ?_
  refine mix1_val (fun wz hz => ex_nilCheck rfl) ?_
  refine mixz_p rfl ?_
  refine mix1_val (fun wz hz => ex_load ty68 rfl (hz.cell (i := 1) rfl hcq)) ?_
  change MixZ _ _ _ _ _ _ [_, _, _, _, _, _, _, _, _, _, _, _, _, _, _, _, _, _, _, _, _, _, _, _, _, _, _, _, _, _, _, _, _, _, _, _, _, _, _, _, _, _, _, _, _, _, _, _, _, _, _, _, _, _, _] _
  refine mixz_p rfl ?_
  refine mix1_val (fun wz hz => ex_conv Try.underlying222 Try.underlying68 rfl (IntWalk.u64_in _ (by omega))) ?_
  refine mixz_o rfl ?_
  refine ops_call_own (ex_call gf149 rfl) (rnum_any n _ (by omega)) ?_
  intro w2 g1 c1 sp1 hm1 hc1 hg1 Hd
  have H2 := H1.call0 Hd
  refine ops_nil ?_
  refine ⟨fun hne => H2.pick [0, 2] (by decide), ?_⟩
  change MixZ _ _ _ _ _ _ [_, _, _, _, _, _, _, _, _, _, _, _, _, _, _, _, _, _, _, _, _, _, _, _, _, _, _, _, _, _, _, _, _, _, _, _, _, _, _, _, _, _, _, _, _, _, _, _, _, _, _, _, _, _, _] _
  refine mixz_o rfl ?_
  refine ops_app8 Try.underlying26 ty5 H2 1 (L := st.out) (M := enc n) (g := g) (sp := sp) rfl rfl hP.room hP.le hP.nil rfl (H2.rd (i := 3) (o := g1) (xs := u8s (enc n)) (sp := sp1) rfl (u8s_length1 _) (by decide)) (by omega) ?_
  intro w3 g3 cap3 sp3 H3 hmc3 hcap3 hg3
  refine ops_nil ?_
  refine ⟨fun hne => H3.pick [0, 2] (by decide), ?_⟩
  change MixZ _ _ _ _ _ _ [_, _, _, _, _, _, _, _, _, _, _, _, _, _, _, _, _, _, _, _, _, _, _, _, _, _, _, _, _, _, _, _, _, _, _, _, _, _, _, _, _, _, _, _, _, _, _, _, _, _, _, _, _, _, _] _
  refine mixz_p rfl ?_
  refine mix1_val (fun wz hz => ex_nilCheck rfl) ?_
  refine mixz_p rfl ?_
  refine mix1_val (fun wz hz => ex_fieldAddr fl102_0 rfl) ?_
  refine mixz_o rfl ?_
  refine ops_store1 ty26 H3 0 rfl rfl rfl rfl (by first | decide | simp) rfl ?_
  intro w4 H4
  refine ops_nil ?_
  refine ⟨fun hne => absurd rfl hne, ?_⟩
  change MixZ _ _ _ _ _ _ [_, _, _, _, _, _, _, _, _, _, _, _, _, _, _, _, _, _, _, _, _, _, _, _, _, _, _, _, _, _, _, _, _, _, _, _, _, _, _, _, _, _, _, _, _, _, _, _, _, _, _, _, _, _, _] _
  refine mixz_nil ?_
  change Run _ _ _ _ [_, _, _, _, _, _, _, _, _, _, _, _, _, _, _, _, _, _, _, _, _, _, _, _, _, _, _, _, _, _, _, _, _, _, _, _, _, _, _, _, _, _, _, _, _, _, _, _, _, _, _, _, _, _, _] _
  refine run_ret ?_
  refine fin_ret0 rfl ?_
  exact ⟨_, g3, cap3, sp3, alike_fld (.word n) ha, ⟨hmc3, hcap3, hg3, by show (st.out ++ enc n).length ≤ m + 65545; rw [List.length_append]; omega⟩, H4.pick [0, 1, 2] (by decide)⟩
theorem vsum_W : WalkW Try.prog 139 (Th.flat [.word]) := vsum_w
set_option maxRecDepth 100000 in
set_option maxHeartbeats 4000000 in
theorem vsum_r (gp gr : Nat) (gb : Option Nat) (cb : Nat) (sb : List Value) (b : List UInt8) (hcb : b.length ≤ cb) (hbl : b.length ≤ 65536) (go o i e : Nat) (U : TypeId) (cs : List Value) (w0 : World) (H0 : Hp w0 w0 (bl (vr gp gr gb cb sb b i e ++ [(some go, U, cs)])) (vr gp gr gb cb sb b i e ++ [(some go, U, cs)])) (hi : i ≤ b.length) (hat : At cs o (Th.flat [.word]).zs) (hfit : o + (Th.flat [.word]).sz ≤ cs.length) :
    Does Try.prog 139 #[.pointer (some ⟨gp, 0, none⟩), .pointer (some ⟨go, o, none⟩)] w0 (fun _ w' => RdOut (vr gp gr gb cb sb b) (Th.flat [.word]) go o U cs b i e w0.heap.size w0 (bl (vr gp gr gb cb sb b i e ++ [(some go, U, cs)])) w') := by
  refine does_of Try.func139 Try.ntmps139 rfl ?_
  change Run _ _ _ _ [.pointer (some ⟨gp, 0, none⟩), .pointer (some ⟨go, o, none⟩), undef, undef, undef, undef, undef, undef, undef, undef, undef, undef, undef, undef, undef, undef, undef, undef, undef, undef, undef, undef, undef, undef, undef, undef, undef, undef, undef, undef, undef, undef, undef, undef, undef, undef, undef, undef, undef, undef, undef, undef, undef, undef, undef, undef, undef, undef, undef, undef, undef, undef, undef, undef, undef] _
  have H := H0
  have hcq := hat 0 _ rfl
  rw [Nat.add_zero] at hcq
  change o + 1 ≤ cs.length at hfit
  refine run_seq ?_
  refine run_seq ?_
  refine run_region ?_
  refine ops_val (ex_move rfl) ?_
  refine ops_val (ex_nilCheck rfl) ?_
  refine ops_val (ex_fieldAddr fl102_1 rfl) ?_
  refine ops_val (ex_load ty100 rfl (H.cell (i := 0) rfl rfl)) ?_
  change Ops _ _ _ _ _ _ [_, _, _, _, _, _, _, _, _, _, _, _, _, _, _, _, _, _, _, _, _, _, _, _, _, _, _, _, _, _, _, _, _, _, _, _, _, _, _, _, _, _, _, _, _, _, _, _, _, _, _, _, _, _, _] _
  refine ops_false (ex_eql_nil_ptr Try.underlying100 rfl) (by simp) ?_
  refine ops_nil ?_
  change Run _ _ _ _ [_, _, _, _, _, _, _, _, _, _, _, _, _, _, _, _, _, _, _, _, _, _, _, _, _, _, _, _, _, _, _, _, _, _, _, _, _, _, _, _, _, _, _, _, _, _, _, _, _, _, _, _, _, _, _] _
  refine run_cond_false rfl ?_
  refine run_skip ?_
  refine run_seq ?_
  refine run_region ?_
  refine ops_val (ex_move rfl) ?_
  refine ops_val (ex_nilCheck rfl) ?_
  refine ops_val (ex_fieldAddr fl102_1 rfl) ?_
  refine ops_val (ex_load ty100 rfl (H.cell (i := 0) rfl rfl)) ?_
  change Ops _ _ _ _ _ _ [_, _, _, _, _, _, _, _, _, _, _, _, _, _, _, _, _, _, _, _, _, _, _, _, _, _, _, _, _, _, _, _, _, _, _, _, _, _, _, _, _, _, _, _, _, _, _, _, _, _, _, _, _, _, _] _
  refine ops_val (ex_nilCheck rfl) ?_
  refine ops_val (ex_fieldAddr fl155_1 rfl) ?_
  refine ops_val (ex_load ty3 rfl (H.cell (i := 1) rfl rfl)) ?_
  refine ops_val (ex_assign rfl) ?_
  refine ops_nil ?_
  change Run _ _ _ _ [_, _, _, _, _, _, _, _, _, _, _, _, _, _, _, _, _, _, _, _, _, _, _, _, _, _, _, _, _, _, _, _, _, _, _, _, _, _, _, _, _, _, _, _, _, _, _, _, _, _, _, _, _, _, _] _
  refine run_seq ?_
  refine run_region ?_
  refine ops_val (ex_move rfl) ?_
  refine ops_val (ex_nilCheck rfl) ?_
  refine ops_val (ex_fieldAddr fl102_1 rfl) ?_
  refine ops_val (ex_load ty100 rfl (H.cell (i := 0) rfl rfl)) ?_
  change Ops _ _ _ _ _ _ [_, _, _, _, _, _, _, _, _, _, _, _, _, _, _, _, _, _, _, _, _, _, _, _, _, _, _, _, _, _, _, _, _, _, _, _, _, _, _, _, _, _, _, _, _, _, _, _, _, _, _, _, _, _, _] _
  refine ops_call_val (ex_call gf151 rfl) (numW_rd gr (hd gb) cb b i e _ (rdw_of H (j := 1) (k := 2) rfl rfl (by decide) hcb (by omega) hi)) ?_
  intro w1 Hd
  have hlt := numStep_lt b i e
  have hle := numStep_le (b := b) (e := e) hi
  have hws : wordStep b i e = if 4294967295 < (numStep b i e).1 then (0, i, 21) else numStep b i e := rfl
  obtain ⟨⟨v, i1, e1⟩, hns⟩ : ∃ s, numStep b i e = s := ⟨_, rfl⟩
  rw [hns] at hlt hle Hd hws
  simp only at hlt hle Hd hws
  have H1 := (H.call1 (i := 1) rfl Hd).pick [0, 4, 2, 3] (by decide)
  rw [hns]
  refine ops_val (ex_assign rfl) ?_
  refine ops_nil ?_
  change Run _ _ _ _ [_, _, _, _, _, _, _, _, _, _, _, _, _, _, _, _, _, _, _, _, _, _, _, _, _, _, _, _, _, _, _, _, _, _, _, _, _, _, _, _, _, _, _, _, _, _, _, _, _, _, _, _, _, _, _] _
  refine run_seq ?_
  refine run_seq ?_
  refine run_region ?_
  refine ops_val (ex_move rfl) ?_
  refine ops_test (ex_gtr rfl rfl) (fun hp37 => ?_) (fun hp37 => ?_)
  · rw [if_pos (by omega)] at hws
    refine ops_nil ?_
    change Run _ _ _ _ [_, _, _, _, _, _, _, _, _, _, _, _, _, _, _, _, _, _, _, _, _, _, _, _, _, _, _, _, _, _, _, _, _, _, _, _, _, _, _, _, _, _, _, _, _, _, _, _, _, _, _, _, _, _, _] _
    refine run_cond_true rfl ?_
    refine run_seq ?_
    refine run_region ?_
    refine ops_val (ex_move rfl) ?_
    refine ops_val (ex_nilCheck rfl) ?_
    refine ops_val (ex_fieldAddr fl102_1 rfl) ?_
    refine ops_val (ex_load ty100 rfl (H1.cell (i := 0) rfl rfl)) ?_
    change Ops _ _ _ _ _ _ [_, _, _, _, _, _, _, _, _, _, _, _, _, _, _, _, _, _, _, _, _, _, _, _, _, _, _, _, _, _, _, _, _, _, _, _, _, _, _, _, _, _, _, _, _, _, _, _, _, _, _, _, _, _, _] _
    refine ops_val (ex_move rfl) ?_
    refine ops_val (ex_nilCheck rfl) ?_
    refine ops_val (ex_fieldAddr fl155_1 rfl) ?_
    refine ops_store1 ty3 H1 1 rfl rfl rfl rfl (by first | decide | simp) rfl ?_
    intro w2 H2
    refine ops_nil ?_
    change Run _ _ _ _ [_, _, _, _, _, _, _, _, _, _, _, _, _, _, _, _, _, _, _, _, _, _, _, _, _, _, _, _, _, _, _, _, _, _, _, _, _, _, _, _, _, _, _, _, _, _, _, _, _, _, _, _, _, _, _] _
    refine run_seq ?_
    refine run_region ?_
    refine ops_val (ex_move rfl) ?_
    refine ops_val (ex_nilCheck rfl) ?_
    refine ops_val (ex_fieldAddr fl102_1 rfl) ?_
    refine ops_val (ex_load ty100 rfl (H2.cell (i := 0) rfl rfl)) ?_
    change Ops _ _ _ _ _ _ [_, _, _, _, _, _, _, _, _, _, _, _, _, _, _, _, _, _, _, _, _, _, _, _, _, _, _, _, _, _, _, _, _, _, _, _, _, _, _, _, _, _, _, _, _, _, _, _, _, _, _, _, _, _, _] _
    refine ops_val (ex_nilCheck rfl) ?_
    refine ops_val (ex_fieldAddr fl155_2 rfl) ?_
    refine ops_store1 ty29 H2 1 rfl rfl rfl rfl (by first | decide | simp) rfl ?_
    intro w3 H3
    refine ops_nil ?_
    change Run _ _ _ _ [_, _, _, _, _, _, _, _, _, _, _, _, _, _, _, _, _, _, _, _, _, _, _, _, _, _, _, _, _, _, _, _, _, _, _, _, _, _, _, _, _, _, _, _, _, _, _, _, _, _, _, _, _, _, _] _
    refine run_region ?_
    refine ops_val (ex_assign rfl) ?_
    refine ops_nil ?_
    change Run _ _ _ _ [_, _, _, _, _, _, _, _, _, _, _, _, _, _, _, _, _, _, _, _, _, _, _, _, _, _, _, _, _, _, _, _, _, _, _, _, _, _, _, _, _, _, _, _, _, _, _, _, _, _, _, _, _, _, _] _
    refine run_region ?_
    refine ops_val (ex_move rfl) ?_
    refine ops_val (ex_move rfl) ?_
    refine ops_val (ex_conv Try.underlying68 Try.underlying222 rfl ((show IntKind.u32.wrap 0 = 0 from rfl))) ?_
    refine ops_val (ex_nilCheck rfl) ?_
    change Ops _ _ _ _ _ _ [_, _, _, _, _, _, _, _, _, _, _, _, _, _, _, _, _, _, _, _, _, _, _, _, _, _, _, _, _, _, _, _, _, _, _, _, _, _, _, _, _, _, _, _, _, _, _, _, _, _, _, _, _, _, _] _
    refine ops_store1 ty68 H3 3 rfl rfl rfl rfl (by omega) rfl ?_
    intro w4 H4
    refine ops_nil ?_
    change Run _ _ _ _ [_, _, _, _, _, _, _, _, _, _, _, _, _, _, _, _, _, _, _, _, _, _, _, _, _, _, _, _, _, _, _, _, _, _, _, _, _, _, _, _, _, _, _, _, _, _, _, _, _, _, _, _, _, _, _] _
    refine run_nil ?_
    refine fin_end0 rfl ?_
    have hrow : cs.set o (Value.int .u32 0) = putAt cs o [Value.int .u32 0] := (putAt_one (by omega)).symm
    have h1 := H4
    rw [hrow] at h1
    have HN := (show ∀ (wa wb : World) (SS : List Nat), Hp wa wb SS _ → Hp wa wb SS (vr gp gr gb cb sb b i 21 ++ [(some go, U, putAt cs o [Value.int .u32 0])]) from fun _ _ _ h => h) _ _ _ h1
    have hrd : (Th.flat [.word]).rd b i e = ([.word 0], i, 21) := by
      show ([Fv.word (wordStep b i e).1], (wordStep b i e).2) = _
      rw [hws]
    unfold RdOut
    rw [hrd]
    exact ⟨[Value.int .u32 0], rfl, rfl, HN, fun _ => ⟨rfl, FPs.one (f := .word 0) ⟨rfl, by omega⟩⟩⟩
  · rw [if_neg (by omega)] at hws
    refine ops_nil ?_
    change Run _ _ _ _ [_, _, _, _, _, _, _, _, _, _, _, _, _, _, _, _, _, _, _, _, _, _, _, _, _, _, _, _, _, _, _, _, _, _, _, _, _, _, _, _, _, _, _, _, _, _, _, _, _, _, _, _, _, _, _] _
    refine run_cond_false rfl ?_
    refine run_skip ?_
    refine run_region ?_
    refine ops_val (ex_move rfl) ?_
    refine ops_val (ex_move rfl) ?_
    refine ops_val (ex_conv Try.underlying68 Try.underlying222 rfl (IntWalk.u32_in _ (by omega))) ?_
    refine ops_val (ex_nilCheck rfl) ?_
    change Ops _ _ _ _ _ _ [_, _, _, _, _, _, _, _, _, _, _, _, _, _, _, _, _, _, _, _, _, _, _, _, _, _, _, _, _, _, _, _, _, _, _, _, _, _, _, _, _, _, _, _, _, _, _, _, _, _, _, _, _, _, _] _
    refine ops_store1 ty68 H1 3 rfl rfl rfl rfl (by omega) rfl ?_
    intro w2 H2
    refine ops_nil ?_
    change Run _ _ _ _ [_, _, _, _, _, _, _, _, _, _, _, _, _, _, _, _, _, _, _, _, _, _, _, _, _, _, _, _, _, _, _, _, _, _, _, _, _, _, _, _, _, _, _, _, _, _, _, _, _, _, _, _, _, _, _] _
    refine run_nil ?_
    refine fin_end0 rfl ?_
    have hrow : cs.set o (Value.int .u32 (v : Int)) = putAt cs o [Value.int .u32 (v : Int)] := (putAt_one (by omega)).symm
    have h1 := H2
    rw [hrow] at h1
    have HN := (show ∀ (wa wb : World) (SS : List Nat), Hp wa wb SS _ → Hp wa wb SS (vr gp gr gb cb sb b i1 e1 ++ [(some go, U, putAt cs o [Value.int .u32 (v : Int)])]) from fun _ _ _ h => h) _ _ _ h1
    have hrd : (Th.flat [.word]).rd b i e = ([.word v], i1, e1) := by
      show ([Fv.word (wordStep b i e).1], (wordStep b i e).2) = _
      rw [hws]
    unfold RdOut
    rw [hrd]
    exact ⟨[Value.int .u32 (v : Int)], rfl, rfl, HN, fun _ => ⟨rfl, FPs.one (f := .word v) ⟨rfl, by omega⟩⟩⟩
theorem vsum_R : WalkR Try.prog 139 (Th.flat [.word]) := vsum_r
end Go.Proofs.Ytoeobicpdeklaaa
