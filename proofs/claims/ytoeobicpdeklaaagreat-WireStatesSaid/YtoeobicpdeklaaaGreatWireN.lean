/- Walks of layer 2, printed by wip/gen/codec.py. -/
import Derived.Test.YtoeobicpdeklaaaGreatNrm
import Derived.Test.YtoeobicpdeklaaaGreatLst
import Derived.Test.YtoeobicpdeklaaaGreatWireE
namespace Go.Proofs.YtoeobicpdeklaaaGreat
open Go Go.RowKit
set_option linter.unusedVariables false
attribute [local irreducible] Still Ops Does Cd
set_option maxRecDepth 100000 in
set_option maxHeartbeats 4000000 in
theorem perrno_w (gp : Nat) (g : Option Nat) (cap : Nat) (sp : List Value) (st : WS) (a : Addr) (x : List Fv) (vs : List Value) (w0 : World) (H0 : Hp w0 w0 (bl (pw gp g cap sp st)) (pw gp g cap sp st)) (hP : POk 65536 g cap sp st) (hM : (Th.flat [.int]).M w0 (fun b => b ∉ bl (pw gp g cap sp st)) x vs) (hC : Cl w0 (bl (pw gp g cap sp st)) a vs) (htw : true = true → Thawed w0 a) :
    Does Tryz.prog 72 #[.pointer (some ⟨gp, 0, none⟩), .pointer (some a)] w0 (fun _ w' => PwOut gp (wAll x st) w0 (bl (pw gp g cap sp st)) w') := by
  refine does_of Tryz.func72 Tryz.ntmps72 rfl ?_
  refine nR14 ?_
  have H := H0
  obtain ⟨n, rfl⟩ := one_int hM.1
  obtain ⟨v, rfl, hv⟩ := hM.2.head
  obtain ⟨rfl, hn1, hn2⟩ := hv
  have hcq : w0.cell? a = some (.int .i64 n) := by have := hC.cell 0 _ rfl; rwa [Addr.add_zero'] at this
  have hbq := hC.apart (by simp)
  refine run_seq ?_
  refine run_region ?_
  refine ops_val (ex_move rfl) ?_
  refine ops_val (ex_nilCheck rfl) ?_
  refine ops_val (ex_load ty32 rfl (cell_to hcq H hbq)) ?_
  refine ops_alloc ty3 H ?_
  intro w1 gv H1 hgv
  refine nO14 ?_
  refine ops_store1 ty3 H1 2 rfl rfl rfl rfl (by first | decide | simp) rfl ?_
  intro w2 H2
  refine ops_nil ?_
  refine nR14 ?_
  refine run_seq ?_
  refine run_region ?_
  refine ops_val (ex_move rfl) ?_
  refine ops_buildSlice Tryz.underlying130 ty82 H2 (cs := [.pointer (some ⟨gv, 0, none⟩)]) rfl (by decide) rfl ?_
  intro w3 gs H3 hgs
  have HQ : Hp w0 w3 (bl (pw gp g cap sp st)) (pw gp g cap sp st ++ [(some gv, 3, [.int .i64 n]), (some gs, 82, [.pointer (some ⟨gv, 0, none⟩)])]) := H3
  have hrp := H3.rd (i := 3) (o := some gs) (T := 82) (xs := [.pointer (some ⟨gv, 0, none⟩)]) (sp := []) rfl (n := 1) (sz := 1) rfl (by decide)
  have hgv2 : gv ∉ bl (pw gp g cap sp st) := row_apart HQ (i := 0) (g := some gv) rfl ⟨gv, 0, none⟩ rfl
  refine ops_call (ex_call gf29 rfl) (pint_W gp g cap sp st ⟨gv, 0, none⟩ 0 1 1 [.int n] [.int .i64 n] _ _ (by decide) HQ.less.here hP ⟨rfl, FPs.one ⟨rfl, hn1, hn2⟩⟩ (by rw [Addr.add_zero']; exact HQ.cl (i := 2) rfl hgv2) hrp (row_apart HQ (i := 1) rfl)) ?_
  rintro _ w4 ⟨g, cap, sp, hP2, Hd⟩
  have H4 := HQ.front Hd
  refine ops_nil ?_
  refine nR14 ?_
  refine run_region ?_
  refine ops_val (ex_move rfl) ?_
  refine ops_val (ex_load ty3 rfl (H4.cell (i := 2) rfl rfl)) ?_
  refine ops_val (ex_nilCheck rfl) ?_
  have hth : Thawed w4 a := (htw rfl).to H4 hbq
  refine ops_same ty32 rfl rfl rfl rfl (cell_to hcq H4 hbq) hth ?_
  refine ops_nil ?_
  refine nR14 ?_
  refine run_nil ?_
  refine fin_end0 rfl ?_
  exact ⟨g, cap, sp, hP2, H4.pick [0, 1] (by decide)⟩
theorem perrno_W : PenW Tryz.prog 72 (Th.flat [.int]) true := perrno_w
set_option maxRecDepth 100000 in
set_option maxHeartbeats 4000000 in
theorem perrno_r (gp gr : Nat) (gb : Option Nat) (cb : Nat) (sb : List Value) (b : List UInt8) (hcb : b.length ≤ cb) (hbl : b.length ≤ 65536) (go o i e : Nat) (U : TypeId) (cs : List Value) (w0 : World) (H0 : Hp w0 w0 (bl (pr gp gr gb cb sb b i e ++ [(some go, U, cs)])) (pr gp gr gb cb sb b i e ++ [(some go, U, cs)])) (hi : i ≤ b.length) (hat : At cs o (Th.flat [.int]).zs) (hfit : o + (Th.flat [.int]).sz ≤ cs.length) :
    Does Tryz.prog 72 #[.pointer (some ⟨gp, 0, none⟩), .pointer (some ⟨go, o, none⟩)] w0 (fun _ w' => RdOut (pr gp gr gb cb sb b) (Th.flat [.int]) go o U cs b i e w0.heap.size w0 (bl (pr gp gr gb cb sb b i e ++ [(some go, U, cs)])) w') := by
  refine does_of Tryz.func72 Tryz.ntmps72 rfl ?_
  refine nR14 ?_
  have H := H0
  have hcq := hat 0 _ rfl
  rw [Nat.add_zero] at hcq
  change o + 1 ≤ cs.length at hfit
  refine run_seq ?_
  refine run_region ?_
  refine ops_val (ex_move rfl) ?_
  refine ops_val (ex_nilCheck rfl) ?_
  refine ops_val (ex_load ty32 rfl (H.cell (i := 3) rfl hcq)) ?_
  refine ops_alloc ty3 H ?_
  intro w1 gv H1 hgv
  refine nO14 ?_
  refine ops_store1 ty3 H1 4 rfl rfl rfl rfl (by first | decide | simp) rfl ?_
  intro w2 H2
  refine ops_nil ?_
  refine nR14 ?_
  refine run_seq ?_
  refine run_region ?_
  refine ops_val (ex_move rfl) ?_
  refine ops_buildSlice Tryz.underlying130 ty82 H2 (cs := [.pointer (some ⟨gv, 0, none⟩)]) rfl (by decide) rfl ?_
  intro w3 gs H3 hgs
  have HQ : Hp w0 w3 _ ((pr gp gr gb cb sb b i e ++ [(some gv, 3, [.int .i64 0])]) ++ [(some go, U, cs), (some gs, 82, [.pointer (some ⟨gv, 0, none⟩)])]) := H3.pick [0, 1, 2, 4, 3, 5] (by decide)
  have hrp := HQ.rd (i := 5) (o := some gs) (T := 82) (xs := [.pointer (some ⟨gv, 0, none⟩)]) (sp := []) rfl (n := 1) (sz := 1) rfl (by decide)
  refine ops_call (ex_call gf29 rfl) (pint_R gp gr gb cb sb b hcb hbl gv 0 1 1 i e 3 [.int .i64 0] _ _ (by decide) HQ.less.here hi (At.self _) (by decide) hrp (row_apart HQ (i := 1) rfl)) ?_
  rintro _ w4 ⟨us, hul, huo, Hd, hMx⟩
  obtain ⟨v, rfl⟩ : ∃ v, us = [v] := by
    match us, hul with
    | [v], _ => exact ⟨v, rfl⟩
  have hsz := HQ.size
  obtain ⟨⟨x, i1, e1⟩, hx⟩ : ∃ s, (Th.flat [.int]).rd b i e = s := ⟨_, rfl⟩
  have hx2 : (Th.flat (List.replicate 1 .int)).rd b i e = (x, i1, e1) := hx
  rw [hx2] at Hd hMx
  simp only at Hd hMx
  have H4 := HQ.front Hd
  refine ops_nil ?_
  refine nR14 ?_
  refine run_region ?_
  refine ops_val (ex_move rfl) ?_
  refine ops_val (ex_load ty3 rfl (H4.cell (i := 3) rfl rfl)) ?_
  refine ops_val (ex_nilCheck rfl) ?_
  refine ops_store1 ty32 H4 4 rfl rfl rfl (cells_one (by simpa using huo)) (by omega) (by simpa using huo) ?_
  intro w5 H5
  refine ops_nil ?_
  refine nR14 ?_
  refine run_nil ?_
  refine fin_end0 rfl ?_
  have hrow : cs.set o v = putAt cs o [v] := (putAt_one (by omega)).symm
  have h1 := H5.pick [0, 1, 2, 4] (by decide)
  rw [hrow] at h1
  have HN := (show ∀ (wa wb : World) (SS : List Nat), Hp wa wb SS _ → Hp wa wb SS (pr gp gr gb cb sb b i1 e1 ++ [(some go, U, putAt cs o [v])]) from fun _ _ _ h => h) _ _ _ h1
  unfold RdOut
  rw [hx]
  refine ⟨[v], rfl, huo, HN, fun h0 => ?_⟩
  obtain ⟨hk, hF⟩ := hMx h0
  obtain ⟨n, rfl⟩ := one_int hk
  obtain ⟨v2, hv2, hv3⟩ := hF.head
  cases hv2
  exact ⟨rfl, FPs.one (f := .int n) hv3⟩
theorem perrno_R : PenR Tryz.prog 72 (Th.flat [.int]) := perrno_r
set_option maxRecDepth 100000 in
set_option maxHeartbeats 4000000 in
theorem pmark_w (gp : Nat) (g : Option Nat) (cap : Nat) (sp : List Value) (st : WS) (a : Addr) (x : thmark.X) (vs : List Value) (w0 : World) (H0 : Hp w0 w0 (bl (pw gp g cap sp st)) (pw gp g cap sp st)) (hP : POk 65536 g cap sp st) (hM : thmark.M w0 (fun b => b ∉ bl (pw gp g cap sp st)) x vs) (hC : Cl w0 (bl (pw gp g cap sp st)) a vs) (htw : true = true → Thawed w0 a) :
    Does Tryz.prog 35 #[.pointer (some ⟨gp, 0, none⟩), .pointer (some a)] w0 (fun _ w' => PwOut gp (wAll (thmark.fl x) st) w0 (bl (pw gp g cap sp st)) w') := by
  refine does_of Tryz.func35 Tryz.ntmps35 rfl ?_
  refine nR39 ?_
  have HS : WSt true gp a w0 (bl (pw gp g cap sp st)) w0 st thmark x vs g cap sp := ⟨H0, hP, hM, hC, fun h => ⟨htw h, by have hl := thmark.len hM; change vs.length = 7 at hl; omega⟩⟩
  have H := HS.H.here
  refine run_seq ?_
  refine run_mixZ 8 [(true, 0), (true, 1), (true, 2), (true, 3), (true, 4), (true, 5), (true, 6), (false, 7), (false, 8)] H [0, 1] mixed (by decide) (by kernel_rfl) ?_
  rintro w1 hw1
  have H1 := Hp.drew H; rw [← hw1] at H1
  refine mixz_p rfl ?_
  refine mix1_val (fun wz hz => ex_move rfl) ?_
  refine mixz_p rfl ?_
  refine mix1_val (fun wz hz => ex_move rfl) ?_
  refine mixz_p rfl ?_
  refine mix1_val (fun wz hz => ex_nilCheck rfl) ?_
  refine nZ39 ?_
  refine mixz_p rfl ?_
  refine mix1_val (fun wz hz => ex_fieldAddrA fl68_0 rfl) ?_
  refine mixz_p rfl ?_
  refine mix1_val (fun wz hz => ex_move rfl) ?_
  refine mixz_p rfl ?_
  refine mix1_val (fun wz hz => ex_nilCheck rfl) ?_
  refine nZ39 ?_
  refine mixz_p rfl ?_
  refine mix1_val (fun wz hz => ex_fieldAddrA fl68_1 rfl) ?_
  refine mixz_o rfl ?_
  refine ops_buildSlice Tryz.underlying130 ty82 H1 rfl (by decide) rfl ?_
  intro w2 g2 H2 hg2
  refine ops_nil ?_
  refine ⟨fun hne => H2.pick [0, 1] (by decide), ?_⟩
  refine nZ39 ?_
  refine mixz_o rfl ?_
  refine ops_call (ex_call gf29 rfl) (HS.grp (o := 0) pint_W H2 (by decide) (fun _ _ hM => (Th.part hM 0 2)) (At.cast (At.trans (At.self _) (At.sub _ 0 2)) (by decide))) ?_
  rintro _ w3 ⟨g, cap, sp, HS⟩
  have H3 := HS.H.here
  refine ops_nil ?_
  refine ⟨fun hne => absurd rfl hne, ?_⟩
  refine nZ39 ?_
  refine mixz_nil ?_
  refine nR39 ?_
  refine run_seq ?_
  refine run_region ?_
  refine ops_val (ex_move rfl) ?_
  refine ops_val (ex_move rfl) ?_
  refine ops_val (ex_nilCheck rfl) ?_
  refine nO39 ?_
  refine ops_val (ex_fieldAddrA fl68_2 rfl) ?_
  refine ops_call (ex_call gf30 rfl) (HS.one (o := 2) pflag_W (by decide) (fun _ _ hM => (Th.part hM 2 1)) (At.cast (At.trans (At.self _) (At.sub _ 2 1)) (by decide))) ?_
  rintro _ w4 ⟨g, cap, sp, HS⟩
  have H4 := HS.H.here
  refine ops_nil ?_
  refine nR39 ?_
  refine run_seq ?_
  refine run_region ?_
  refine ops_val (ex_move rfl) ?_
  refine ops_val (ex_move rfl) ?_
  refine ops_val (ex_nilCheck rfl) ?_
  refine nO39 ?_
  refine ops_val (ex_fieldAddrA fl68_3 rfl) ?_
  refine ops_val (ex_fieldAddrB fl66_0 rfl) ?_
  refine ops_call (ex_call gf72 rfl) (HS.one (o := 3) perrno_W (by decide) (fun _ _ hM => (Th.part hM 3 1)) (At.cast (At.trans (At.self _) (At.sub _ 3 1)) (by decide))) ?_
  rintro _ w5 ⟨g, cap, sp, HS⟩
  have H5 := HS.H.here
  refine ops_nil ?_
  refine nR39 ?_
  refine run_mixZ 14 [(true, 0), (true, 1), (true, 2), (true, 3), (true, 4), (true, 5), (true, 6), (true, 7), (true, 8), (true, 9), (true, 10), (true, 11), (true, 12), (false, 13), (false, 14)] H5 [0, 1] mixed (by decide) (by kernel_rfl) ?_
  rintro w6 hw6
  have H6 := Hp.drew H5; rw [← hw6] at H6
  refine mixz_p rfl ?_
  refine mix1_val (fun wz hz => ex_move rfl) ?_
  refine mixz_p rfl ?_
  refine mix1_val (fun wz hz => ex_move rfl) ?_
  refine mixz_p rfl ?_
  refine mix1_val (fun wz hz => ex_nilCheck rfl) ?_
  refine nZ39 ?_
  refine mixz_p rfl ?_
  refine mix1_val (fun wz hz => ex_fieldAddrA fl68_3 rfl) ?_
  refine mixz_p rfl ?_
  refine mix1_val (fun wz hz => ex_fieldAddrB fl66_1 rfl) ?_
  refine mixz_p rfl ?_
  refine mix1_val (fun wz hz => ex_move rfl) ?_
  refine nZ39 ?_
  refine mixz_p rfl ?_
  refine mix1_val (fun wz hz => ex_nilCheck rfl) ?_
  refine mixz_p rfl ?_
  refine mix1_val (fun wz hz => ex_fieldAddrA fl68_3 rfl) ?_
  refine mixz_p rfl ?_
  refine mix1_val (fun wz hz => ex_fieldAddrB fl66_2 rfl) ?_
  refine nZ39 ?_
  refine mixz_p rfl ?_
  refine mix1_val (fun wz hz => ex_move rfl) ?_
  refine mixz_p rfl ?_
  refine mix1_val (fun wz hz => ex_nilCheck rfl) ?_
  refine mixz_p rfl ?_
  refine mix1_val (fun wz hz => ex_fieldAddrA fl68_3 rfl) ?_
  refine nZ39 ?_
  refine mixz_p rfl ?_
  refine mix1_val (fun wz hz => ex_fieldAddrB fl66_3 rfl) ?_
  refine mixz_o rfl ?_
  refine ops_buildSlice Tryz.underlying130 ty82 H6 rfl (by decide) rfl ?_
  intro w7 g7 H7 hg7
  refine ops_nil ?_
  refine ⟨fun hne => H7.pick [0, 1] (by decide), ?_⟩
  refine nZ39 ?_
  refine mixz_o rfl ?_
  refine ops_call (ex_call gf29 rfl) (HS.grp (o := 4) pint_W H7 (by decide) (fun _ _ hM => (Th.part hM 4 3)) (At.cast (At.trans (At.self _) (At.sub _ 4 3)) (by decide))) ?_
  rintro _ w8 ⟨g, cap, sp, HS⟩
  have H8 := HS.H.here
  refine ops_nil ?_
  refine ⟨fun hne => absurd rfl hne, ?_⟩
  refine nZ39 ?_
  refine mixz_nil ?_
  refine nR39 ?_
  refine run_nil ?_
  refine fin_end0 rfl ?_
  have hw0 : List.take 7 x = x := Th.whole hM
  refine HS.out ?_
  show _ = wAll (x) st
  simp only [List.drop_zero, wAll_part, wAll_append, Nat.reduceAdd, hw0]
theorem pmark_W : PenW Tryz.prog 35 thmark true := pmark_w
set_option maxRecDepth 100000 in
set_option maxHeartbeats 4000000 in
theorem pmark_r (gp gr : Nat) (gb : Option Nat) (cb : Nat) (sb : List Value) (b : List UInt8) (hcb : b.length ≤ cb) (hbl : b.length ≤ 65536) (go o i e : Nat) (U : TypeId) (cs : List Value) (w0 : World) (H0 : Hp w0 w0 (bl (pr gp gr gb cb sb b i e ++ [(some go, U, cs)])) (pr gp gr gb cb sb b i e ++ [(some go, U, cs)])) (hi : i ≤ b.length) (hat : At cs o thmark.zs) (hfit : o + thmark.sz ≤ cs.length) :
    Does Tryz.prog 35 #[.pointer (some ⟨gp, 0, none⟩), .pointer (some ⟨go, o, none⟩)] w0 (fun _ w' => RdOut (pr gp gr gb cb sb b) thmark go o U cs b i e w0.heap.size w0 (bl (pr gp gr gb cb sb b i e ++ [(some go, U, cs)])) w') := by
  refine does_of Tryz.func35 Tryz.ntmps35 rfl ?_
  refine nR39 ?_
  change o + 7 ≤ cs.length at hfit
  have HS := RSt.start (R := pr gp gr gb cb sb b) (o := o) H0 hi
  have H := HS.H.here
  refine run_seq ?_
  refine run_mixZ 8 [(true, 0), (true, 1), (true, 2), (true, 3), (true, 4), (true, 5), (true, 6), (false, 7), (false, 8)] H [0, 1, 2, 3] mixed (by decide) (by kernel_rfl) ?_
  rintro w1 hw1
  have H1 := Hp.drew H; rw [← hw1] at H1
  refine mixz_p rfl ?_
  refine mix1_val (fun wz hz => ex_move rfl) ?_
  refine mixz_p rfl ?_
  refine mix1_val (fun wz hz => ex_move rfl) ?_
  refine mixz_p rfl ?_
  refine mix1_val (fun wz hz => ex_nilCheck rfl) ?_
  refine nZ39 ?_
  refine mixz_p rfl ?_
  refine mix1_val (fun wz hz => ex_fieldAddr fl68_0 rfl) ?_
  refine mixz_p rfl ?_
  refine mix1_val (fun wz hz => ex_move rfl) ?_
  refine mixz_p rfl ?_
  refine mix1_val (fun wz hz => ex_nilCheck rfl) ?_
  refine nZ39 ?_
  refine mixz_p rfl ?_
  refine mix1_val (fun wz hz => ex_fieldAddr fl68_1 rfl) ?_
  refine mixz_o rfl ?_
  refine ops_buildSlice Tryz.underlying130 ty82 H1 rfl (by decide) rfl ?_
  intro w2 g2 H2 hg2
  refine ops_nil ?_
  refine ⟨fun hne => H2.pick [0, 1, 2, 3] (by decide), ?_⟩
  refine nZ39 ?_
  refine mixz_o rfl ?_
  refine ops_call (ex_call gf29 rfl) (HS.grp (q := 0) (pint_R gp gr gb cb sb b hcb hbl) (by decide) H2 (by decide) (show o + 0 + 2 ≤ _ by omega) (At.cast (hat.trans (At.sub _ 0 2)) rfl) rfl rfl) ?_
  rintro _ w3 ⟨us, i1, e1, HS⟩
  replace HS := HS.join1
  have H3 := HS.H.here
  refine ops_nil ?_
  refine ⟨fun hne => absurd rfl hne, ?_⟩
  refine nZ39 ?_
  refine mixz_nil ?_
  refine nR39 ?_
  refine run_seq ?_
  refine run_region ?_
  refine ops_val (ex_move rfl) ?_
  refine ops_val (ex_move rfl) ?_
  refine ops_val (ex_nilCheck rfl) ?_
  refine nO39 ?_
  refine ops_val (ex_fieldAddr fl68_2 rfl) ?_
  refine ops_call (ex_call gf30 rfl) (HS.one (q := 2) (pflag_R gp gr gb cb sb b hcb hbl) (by decide) (show o + 2 + 1 ≤ _ by omega) (At.cast (hat.trans (At.sub _ 2 1)) rfl)) ?_
  rintro _ w4 ⟨us, i1, e1, HS⟩
  replace HS := HS.join1
  have H4 := HS.H.here
  refine ops_nil ?_
  refine nR39 ?_
  refine run_seq ?_
  refine run_region ?_
  refine ops_val (ex_move rfl) ?_
  refine ops_val (ex_move rfl) ?_
  refine ops_val (ex_nilCheck rfl) ?_
  refine nO39 ?_
  refine ops_val (ex_fieldAddr fl68_3 rfl) ?_
  refine ops_val (ex_fieldAddr fl66_0 rfl) ?_
  refine ops_call (ex_call gf72 rfl) (HS.one (q := 3) (perrno_R gp gr gb cb sb b hcb hbl) (by decide) (show o + 3 + 1 ≤ _ by omega) (At.cast (hat.trans (At.sub _ 3 1)) rfl)) ?_
  rintro _ w5 ⟨us, i1, e1, HS⟩
  replace HS := HS.join1
  have H5 := HS.H.here
  refine ops_nil ?_
  refine nR39 ?_
  refine run_mixZ 14 [(true, 0), (true, 1), (true, 2), (true, 3), (true, 4), (true, 5), (true, 6), (true, 7), (true, 8), (true, 9), (true, 10), (true, 11), (true, 12), (false, 13), (false, 14)] H5 [0, 1, 2, 3] mixed (by decide) (by kernel_rfl) ?_
  rintro w6 hw6
  have H6 := Hp.drew H5; rw [← hw6] at H6
  refine mixz_p rfl ?_
  refine mix1_val (fun wz hz => ex_move rfl) ?_
  refine mixz_p rfl ?_
  refine mix1_val (fun wz hz => ex_move rfl) ?_
  refine mixz_p rfl ?_
  refine mix1_val (fun wz hz => ex_nilCheck rfl) ?_
  refine nZ39 ?_
  refine mixz_p rfl ?_
  refine mix1_val (fun wz hz => ex_fieldAddr fl68_3 rfl) ?_
  refine mixz_p rfl ?_
  refine mix1_val (fun wz hz => ex_fieldAddr fl66_1 rfl) ?_
  refine mixz_p rfl ?_
  refine mix1_val (fun wz hz => ex_move rfl) ?_
  refine nZ39 ?_
  refine mixz_p rfl ?_
  refine mix1_val (fun wz hz => ex_nilCheck rfl) ?_
  refine mixz_p rfl ?_
  refine mix1_val (fun wz hz => ex_fieldAddr fl68_3 rfl) ?_
  refine mixz_p rfl ?_
  refine mix1_val (fun wz hz => ex_fieldAddr fl66_2 rfl) ?_
  refine nZ39 ?_
  refine mixz_p rfl ?_
  refine mix1_val (fun wz hz => ex_move rfl) ?_
  refine mixz_p rfl ?_
  refine mix1_val (fun wz hz => ex_nilCheck rfl) ?_
  refine mixz_p rfl ?_
  refine mix1_val (fun wz hz => ex_fieldAddr fl68_3 rfl) ?_
  refine nZ39 ?_
  refine mixz_p rfl ?_
  refine mix1_val (fun wz hz => ex_fieldAddr fl66_3 rfl) ?_
  refine mixz_o rfl ?_
  refine ops_buildSlice Tryz.underlying130 ty82 H6 rfl (by decide) rfl ?_
  intro w7 g7 H7 hg7
  refine ops_nil ?_
  refine ⟨fun hne => H7.pick [0, 1, 2, 3] (by decide), ?_⟩
  refine nZ39 ?_
  refine mixz_o rfl ?_
  refine ops_call (ex_call gf29 rfl) (HS.grp (q := 4) (pint_R gp gr gb cb sb b hcb hbl) (by decide) H7 (by decide) (show o + 4 + 3 ≤ _ by omega) (At.cast (hat.trans (At.sub _ 4 3)) rfl) rfl rfl) ?_
  rintro _ w8 ⟨us, i1, e1, HS⟩
  replace HS := HS.join1
  have H8 := HS.H.here
  refine ops_nil ?_
  refine ⟨fun hne => absurd rfl hne, ?_⟩
  refine nZ39 ?_
  refine mixz_nil ?_
  refine nR39 ?_
  refine run_nil ?_
  refine fin_end0 rfl ?_
  exact HS.out
theorem pmark_R : PenR Tryz.prog 35 thmark := pmark_r
set_option maxRecDepth 100000 in
set_option maxHeartbeats 4000000 in
theorem plmark_w (gp : Nat) (g0 : Option Nat) (cap0 : Nat) (sp0 : List Value) (st : WS) (a : Addr) (x : List thmark.X) (vs : List Value) (w0 : World) (H0 : Hp w0 w0 (bl (pw gp g0 cap0 sp0 st)) (pw gp g0 cap0 sp0 st)) (hP : POk 65536 g0 cap0 sp0 st) (hM : (Th.many thmark true).M w0 (fun b => b ∉ bl (pw gp g0 cap0 sp0 st)) x vs) (hC : Cl w0 (bl (pw gp g0 cap0 sp0 st)) a vs) :
    Does Tryz.prog 34 #[.pointer (some ⟨gp, 0, none⟩), .pointer (some a), .func (.func 35) [.pointer (some ⟨gp, 0, none⟩)].toArray #[]] w0 (fun _ w' => PwOut gp (wAll ((Th.many thmark true).fl x) st) w0 (bl (pw gp g0 cap0 sp0 st)) w') := by
  refine does_of Tryz.func34 Tryz.ntmps34 rfl ?_
  refine nR80 ?_
  have H := H0
  obtain ⟨B, c, cells, rfl, hz, hrd, hap, ht, hel⟩ := hM
  have hcq : w0.cell? a = some (.slice B x.length c) := by have := hC.cell 0 _ rfl; rwa [Addr.add_zero'] at this
  have hbq := hC.apart (by simp)
  refine run_seq ?_
  refine run_seq ?_
  refine run_region ?_
  refine ops_val (ex_move rfl) ?_
  have hk := pstop_w gp g0 cap0 sp0 st _ H.here
  refine ops_call_val (ex_call gf63 rfl) hk ?_
  intro w1 Hd
  have H1 := H.all Hd
  refine ops_nil ?_
  refine nR80 ?_
  refine run_cond rfl (fun hb11 => ?_) (fun hb11 => ?_)
  · skip
    refine run_ret ?_
    refine fin_ret0 rfl ?_
    have e : wAll ((Th.many thmark true).fl x) st = st := wAll_long hb11
    rw [e]
    exact ⟨g0, cap0, sp0, hP, H1⟩
  · skip
    refine run_skip ?_
    refine run_seq ?_
    refine run_seq ?_
    refine run_region ?_
    refine ops_val (ex_move rfl) ?_
    refine ops_val (ex_nilCheck rfl) ?_
    refine ops_val (ex_fieldAddr fl80_0 rfl) ?_
    refine ops_val (ex_load ty78 rfl (H1.cell (i := 0) rfl rfl)) ?_
    refine nO80 ?_
    refine ops_true (ex_eql_nil_ptr Tryz.underlying78 rfl) (rfl) ?_
    refine ops_nil ?_
    refine nR80 ?_
    refine run_cond_true rfl ?_
    refine run_seq ?_
    refine run_seq ?_
    refine run_region ?_
    refine ops_val (ex_move rfl) ?_
    refine ops_val (ex_nilCheck rfl) ?_
    refine ops_val (ex_load ty23 rfl (cell_to hcq H1 hbq)) ?_
    refine ops_val (ex_len_slice Tryz.underlying23 rfl) ?_
    refine nO80 ?_
    refine ops_test (ex_gtr rfl rfl) (fun hp21 => ?_) (fun hp21 => ?_)
    · skip
      refine ops_nil ?_
      refine nR80 ?_
      refine run_cond_true rfl ?_
      refine run_seq ?_
      refine run_region ?_
      refine ops_val (ex_move rfl) ?_
      refine ops_val (ex_nilCheck rfl) ?_
      refine ops_val (ex_fieldAddr fl80_2 rfl) ?_
      refine ops_store1 ty4 H1 0 rfl rfl rfl rfl (by first | decide | simp) rfl ?_
      intro w2 H2
      refine ops_nil ?_
      refine nR80 ?_
      refine run_ret ?_
      refine fin_ret0 rfl ?_
      have e := wl_too (A := thmark) true hb11 (x := x) (by omega)
      rw [e]
      exact ⟨g0, cap0, sp0, ⟨hP.1, hP.2, hP.3, hP.4⟩, H2⟩
    · have hzero : wl thmark x 0 st = wPut (enc x.length) st := by rw [wl_zero]; exact wFld_put hb11 (by simp [tooLong]; omega)
      refine ops_nil ?_
      refine nR80 ?_
      refine run_cond_false rfl ?_
      refine run_skip ?_
      refine run_seq ?_
      refine run_region ?_
      refine ops_val (ex_move rfl) ?_
      refine ops_val (ex_move rfl) ?_
      refine ops_val (ex_nilCheck rfl) ?_
      refine ops_val (ex_load ty23 rfl (cell_to hcq H1 hbq)) ?_
      refine nO80 ?_
      refine ops_val (ex_len_slice Tryz.underlying23 rfl) ?_
      refine ops_val (ex_conv Tryz.underlying136 Tryz.underlying3 rfl (IntWalk.u64_in _ (by omega))) ?_
      have hxl : (enc x.length).length ≤ 1000000000 := by have := enc_len64 (v := x.length) (by omega); omega
      refine ops_call_own (ex_call gf68 rfl) (num_any x.length _ (by omega)) ?_
      intro w2 g1 c1 sp1 hm1 hc1 hg1 Hd
      have H2 := H1.call0 Hd
      have HQ : Hp w0 w2 _ (pw gp g0 cap0 sp0 st ++ [(g1, 5, u8s (enc x.length) ++ sp1)]) := H2
      have hk := pput_w gp g0 cap0 sp0 st _ (HQ.less (es := pw gp g0 cap0 sp0 st) (R := [(g1, 5, u8s (enc x.length) ++ sp1)])).here hP (hd g1) (enc x.length) c1 (HQ.rd (i := 2) (o := g1) (xs := u8s (enc x.length)) (sp := sp1) rfl (u8s_length1 _) (by decide)) (row_apart HQ (i := 0) rfl) hxl
      refine ops_call (ex_call gf64 rfl) hk ?_
      rintro _ w3 ⟨g, cap, sp, hP2, Hd⟩
      have H3 := Hp.less (es := pw gp g cap sp _) (R := [(g1, 5, u8s (enc x.length) ++ sp1)]) (HQ.front Hd)
      refine ops_nil ?_
      refine nR80 ?_
      refine run_seq ?_
      refine run_seq ?_
      refine run_region ?_
      refine ops_val (ex_assign rfl) ?_
      refine ops_nil ?_
      refine nR80 ?_
      refine run_block ?_
      refine run_loop (fun n l w => ∃ (q : Nat) (y : Int) (g : Option Nat) (cap : Nat) (sp : List Value), x.length - q = n ∧ Fits [some (.pointer (some ⟨gp, 0, none⟩)), some (.pointer (some a)), some (.func (.func 35) [.pointer (some ⟨gp, 0, none⟩)].toArray #[]), none, none, none, some (.int .i64 y), none, none, none, none, none, none, none, none, none, none, none, none, none, none, none, none, none, none, none, none, none, none, none, none, none, none, none, none, none, none, none, none, none, none, none, none, none, none, none, none, none, none, none, none, none, none, none, none, none, none, none, none, none, none, none, none, none, none, none, none, none, none, none, none, none, none, none, none, none, none, none, none, none] l ∧ y = q ∧ q ≤ x.length ∧ POk 65536 g cap sp (wl thmark x q st) ∧ Hp w0 w (bl (pw gp g0 cap0 sp0 st)) (pw gp g cap sp (wl thmark x q st))) (x.length) ?_ ?_
      · exact ⟨0, _, g, cap, sp, rfl, (fs (fs (fs (fn (fn (fn (fs (fn (fn (fn (fn (fn (fn (fn (fn (fn (fn (fn (fn (fn (fn (fn (fn (fn (fn (fn (fn (fn (fn (fn (fn (fn (fn (fn (fn (fn (fn (fn (fn (fn (fn (fn (fn (fn (fn (fn (fn (fn (fn (fn (fn (fn (fn (fn (fn (fn (fn (fn (fn (fn (fn (fn (fn (fn (fn (fn (fn (fn (fn (fn (fn (fn (fn (fn (fn (fn (fn (fn (fn (fn f0)))))))))))))))))))))))))))))))))))))))))))))))))))))))))))))))))))))))))))))))), rfl, Nat.zero_le _, by rw [hzero]; exact hP2, by rw [hzero]; exact H3⟩
      · rintro n l w4 ⟨q, y, g, cap, sp, rfl, hfit, rfl, hq, hP, H4⟩
        obtain ⟨j, rfl⟩ := hfit.open
        refine nR80 ?_
        clear hfit
        refine run_seq ?_
        refine run_seq ?_
        refine run_region ?_
        refine ops_val (ex_move rfl) ?_
        refine ops_val (ex_move rfl) ?_
        refine ops_val (ex_nilCheck rfl) ?_
        refine ops_val (ex_load ty23 rfl (cell_to hcq H4 hbq)) ?_
        refine nO80 ?_
        refine ops_val (ex_len_slice Tryz.underlying23 rfl) ?_
        refine ops_test (ex_lss rfl rfl) (fun hp38 => ?_) (fun hp38 => ?_)
        · have hql : q < x.length := by omega
          obtain ⟨⟨so, sl⟩, hst⟩ : ∃ s, wl thmark x q st = s := ⟨_, rfl⟩
          rw [hst] at hP H4
          refine ops_val (ex_move rfl) ?_
          refine nO80 ?_
          refine ops_yes rfl ?_
          refine ops_val (ex_move rfl) ?_
          refine ops_yes rfl ?_
          refine ops_val (ex_nilCheck rfl) ?_
          refine nO80 ?_
          refine ops_yes rfl ?_
          refine ops_val (ex_fieldAddr fl80_2 rfl) ?_
          refine ops_yes rfl ?_
          refine ops_val (ex_load ty4 rfl (H4.cell (i := 0) rfl rfl)) ?_
          refine nO80 ?_
          refine ops_yes rfl ?_
          refine ops_val (ex_not rfl) ?_
          refine ops_val (ex_pick_t rfl rfl) ?_
          refine ops_nil ?_
          refine nR80 ?_
          refine run_cond rfl (fun hb45 => ?_) (fun hb45 => ?_)
          · have hsl : sl = false := by simpa using hb45
            subst hsl
            refine run_skip ?_
            refine run_seq ?_
            refine run_block ?_
            refine run_region ?_
            refine ops_val (ex_move rfl) ?_
            refine ops_val (ex_move rfl) ?_
            refine ops_val (ex_nilCheck rfl) ?_
            refine ops_val (ex_load ty23 rfl (cell_to hcq H4 hbq)) ?_
            refine nO80 ?_
            refine ops_val (ex_move rfl) ?_
            obtain ⟨pa, hpa⟩ := hrd.some_ (by omega)
            subst hpa
            refine ops_val (ex_idx Tryz.underlying23 ty68 rfl rfl rfl hql rfl) ?_
            have hpb := hap (by omega) pa rfl
            have hMq := thmark.to (hel q hql) H4 (fun _ h => h)
            refine ops_call (ex_call_bound gf35 rfl rfl) (pmark_W gp g cap sp _ (pa.add (q * 7)) x[q] _ _ H4.here hP (thmark.mono hMq fun _ h => h.2) ((elem_cl hrd hql hpb).to H4) (fun _ => ((ht (by omega) rfl pa rfl).to H4 hpb).add _)) ?_
            rintro _ w5 ⟨g, cap, sp, hP2, Hd⟩
            have H5 := H4.all Hd
            refine ops_nil ?_
            refine nR80 ?_
            refine run_nil (blk_normal ?_)
            refine run_region ?_
            refine ops_val (ex_move rfl) ?_
            refine ops_val (ex_add rfl rfl (IntWalk.i64_in _ (by omega))) ?_
            refine ops_val (ex_assign rfl) ?_
            refine ops_nil ?_
            refine nR80 ?_
            refine run_nil (rnd_normal ?_)
            exact ⟨x.length - (q + 1), by omega, q + 1, _, g, cap, sp, rfl, (fs (fs (fs (fn (fn (fn (fs (fn (fn (fn (fn (fn (fn (fn (fn (fn (fn (fn (fn (fn (fn (fn (fn (fn (fn (fn (fn (fn (fn (fn (fn (fn (fn (fn (fn (fn (fn (fn (fn (fn (fn (fn (fn (fn (fn (fn (fn (fn (fn (fn (fn (fn (fn (fn (fn (fn (fn (fn (fn (fn (fn (fn (fn (fn (fn (fn (fn (fn (fn (fn (fn (fn (fn (fn (fn (fn (fn (fn (fn (fn f0)))))))))))))))))))))))))))))))))))))))))))))))))))))))))))))))))))))))))))))))), rfl, by omega, by rw [wl_succ hql, hst]; exact hP2, by rw [wl_succ hql, hst]; exact H5⟩
          · have hsl : sl = true := by simpa using hb45
            subst hsl
            refine run_exit ?_
            refine rnd_exit ?_
            refine blk_exit ?_
            refine run_ret ?_
            refine fin_ret0 rfl ?_
            have e := wl_stop (A := thmark) true (x := x) (q := q) (st := st) (by rw [hst])
            rw [e, hst]
            exact ⟨g, cap, sp, hP, H4⟩
        · have hqm : q = x.length := by omega
          subst hqm
          refine ops_val (ex_move rfl) ?_
          refine nO80 ?_
          refine ops_no rfl ?_
          refine ops_no rfl ?_
          refine nO80 ?_
          refine ops_no rfl ?_
          refine ops_no rfl ?_
          refine nO80 ?_
          refine ops_no rfl ?_
          refine ops_val (ex_pick_f rfl rfl) ?_
          refine ops_nil ?_
          refine nR80 ?_
          refine run_cond_false rfl ?_
          refine run_exit ?_
          refine rnd_exit ?_
          refine blk_exit ?_
          refine run_ret ?_
          refine fin_ret0 rfl ?_
          rw [wl_all thmark true] at hP H4
          exact ⟨g, cap, sp, hP, H4⟩
theorem plmark_W : PenWL Tryz.prog 34 35 (Th.many thmark true) := plmark_w
set_option maxRecDepth 100000 in
set_option maxHeartbeats 4000000 in
theorem plmark_r (gp gr : Nat) (gb : Option Nat) (cb : Nat) (sb : List Value) (b : List UInt8) (hcb : b.length ≤ cb) (hbl : b.length ≤ 65536) (go o i e : Nat) (U : TypeId) (cs : List Value) (w0 : World) (H0 : Hp w0 w0 (bl (pr gp gr gb cb sb b i e ++ [(some go, U, cs)])) (pr gp gr gb cb sb b i e ++ [(some go, U, cs)])) (hi : i ≤ b.length) (hat : At cs o (Th.many thmark true).zs) (hfit : o + (Th.many thmark true).sz ≤ cs.length) :
    Does Tryz.prog 34 #[.pointer (some ⟨gp, 0, none⟩), .pointer (some ⟨go, o, none⟩), .func (.func 35) [.pointer (some ⟨gp, 0, none⟩)].toArray #[]] w0 (fun _ w' => RdOut (pr gp gr gb cb sb b) (Th.many thmark true) go o U cs b i e w0.heap.size w0 (bl (pr gp gr gb cb sb b i e ++ [(some go, U, cs)])) w') := by
  refine does_of Tryz.func34 Tryz.ntmps34 rfl ?_
  refine nR80 ?_
  have H := H0
  change o + 1 ≤ cs.length at hfit
  have hcq : cs[o]? = some (Value.slice none 0 0) := by have := hat 0 _ rfl; rwa [Nat.add_zero] at this
  have hrow : putAt cs o [Value.slice none 0 0] = cs := putAt_same hat (by simpa using hfit)
  refine run_seq ?_
  refine run_seq ?_
  refine run_region ?_
  refine ops_val (ex_move rfl) ?_
  have hk := pstop_r gp gr gb cb sb b i e _ (Hp.less (es := pr gp gr gb cb sb b i e) (R := [(some go, U, cs)]) H).here hcb hbl hi
  refine ops_call_val (ex_call gf63 rfl) hk ?_
  intro w1 Hd
  have H1 := Hp.front (R := [(some go, U, cs)]) H Hd
  refine ops_nil ?_
  refine nR80 ?_
  refine run_cond rfl (fun hb11 => ?_) (fun hb11 => ?_)
  · have hbe : e ≠ 0 := by simpa using hb11
    refine run_ret ?_
    refine fin_ret0 rfl ?_
    have hbd := (Th.many thmark true).bad (b := b) (i := i) hbe
    unfold RdOut
    rw [hbd]
    refine ⟨[Value.slice none 0 0], rfl, rfl, by rw [hrow]; exact H1, fun h => absurd h hbe⟩
  · have hbe : e = 0 := by simpa using hb11
    refine run_skip ?_
    refine run_seq ?_
    refine run_seq ?_
    refine run_region ?_
    refine ops_val (ex_move rfl) ?_
    refine ops_val (ex_nilCheck rfl) ?_
    refine ops_val (ex_fieldAddr fl80_0 rfl) ?_
    refine ops_val (ex_load ty78 rfl (H1.cell (i := 0) rfl rfl)) ?_
    refine nO80 ?_
    refine ops_false (ex_eql_nil_ptr Tryz.underlying78 rfl) (by simp) ?_
    refine ops_nil ?_
    refine nR80 ?_
    refine run_cond_false rfl ?_
    refine run_skip ?_
    refine run_seq ?_
    refine run_region ?_
    refine ops_val (ex_move rfl) ?_
    refine ops_val (ex_nilCheck rfl) ?_
    refine ops_val (ex_fieldAddr fl80_0 rfl) ?_
    refine ops_val (ex_load ty78 rfl (H1.cell (i := 0) rfl rfl)) ?_
    refine nO80 ?_
    obtain ⟨⟨nn, ic, ec⟩, hcn⟩ : ∃ s, countStep b 1024 i e = s := ⟨_, rfl⟩
    have hcb2 := countStep_le (b := b) (most := 1024) (i := i) (e := e) hi
    have hic := hcb2.1
    have hn3 := hcb2.2.2.1
    rw [hcn] at hic hn3
    simp only at hic hn3
    have hnn : nn ≤ 1024 := by have : ((nn : Nat) : Int) ≤ max 1024 0 := hn3; omega
    have hmr : (Th.many thmark true).rd b i e = rdN thmark b nn ic ec := by
      show rdN thmark b (countStep b 1024 i e).1 (countStep b 1024 i e).2.1 (countStep b 1024 i e).2.2 = _
      rw [hcn]
    have hk := count_rd gr (hd gb) cb b i e _ (rdr_of H1 (j := 1) (k := 2) rfl rfl (by decide) hcb (by omega) hi) 1024 (by decide) (by decide)
    rw [hcn] at hk
    refine ops_call_val (ex_call gf69 rfl) hk ?_
    intro w2 Hd
    have HN0 := (H1.call1 (i := 1) rfl Hd).pick [0, 4, 2, 3] (by decide)
    have H2 : Hp w0 w2 (bl (pr gp gr gb cb sb b i e ++ [(some go, U, cs)])) (pr gp gr gb cb sb b ic ec ++ [(some go, U, putAt cs o [Value.slice none 0 0])]) := by rw [hrow]; exact HN0
    refine ops_val (ex_assign rfl) ?_
    refine ops_nil ?_
    refine nR80 ?_
    refine run_seq ?_
    refine run_region ?_
    refine ops_val (ex_assign rfl) ?_
    refine ops_nil ?_
    refine nR80 ?_
    refine run_block ?_
    refine run_loop (fun n l w => ∃ (q : Nat) (y : Int) (i1 e1 : Nat) (xs : List thmark.X) (uc spl : List Value) (gl : Option Nat) (capl : Nat), nn - q = n ∧ Fits [some (.pointer (some ⟨gp, 0, none⟩)), some (.pointer (some ⟨go, o, none⟩)), some (.func (.func 35) [.pointer (some ⟨gp, 0, none⟩)].toArray #[]), none, none, none, none, some (.int .i64 (nn : Int)), some (.int .i64 y), none, none, none, none, none, none, none, none, none, none, none, none, none, none, none, none, none, none, none, none, none, none, none, none, none, none, none, none, none, none, none, none, none, none, none, none, none, none, none, none, none, none, none, none, none, none, none, none, none, none, none, none, none, none, none, none, none, none, none, none, none, none, none, none, none, none, none, none, none, none, none] l ∧ y = q ∧ q ≤ nn ∧ xs.length = q ∧ rdN thmark b nn ic ec = (xs ++ (rdN thmark b (nn - q) i1 e1).1, (rdN thmark b (nn - q) i1 e1).2) ∧ i1 ≤ b.length ∧ uc.length = q * 7 ∧ uc.all (·.oneCell') = true ∧ q ≤ capl ∧ capl * 7 ≤ (uc ++ spl).length ∧ (gl = none → capl = 0) ∧ Hp w0 w (bl (pr gp gr gb cb sb b i e ++ [(some go, U, cs)])) ((pr gp gr gb cb sb b i1 e1 ++ [(some go, U, putAt cs o [Value.slice (hd gl) q capl])]) ++ [(gl, 68, uc ++ spl)]) ∧ (e1 = 0 → ∀ j (hj : j < xs.length), thmark.M w (Fr w w0.heap.size ((pr gp gr gb cb sb b i1 e1 ++ [(some go, U, putAt cs o [Value.slice (hd gl) q capl])]) ++ [(gl, 68, uc ++ spl)])) xs[j] ((uc.drop (j * 7)).take 7))) (nn) ?_ ?_
    · exact ⟨0, _, ic, ec, [], [], [], none, 0, rfl, (fs (fs (fs (fn (fn (fn (fn (fs (fs (fn (fn (fn (fn (fn (fn (fn (fn (fn (fn (fn (fn (fn (fn (fn (fn (fn (fn (fn (fn (fn (fn (fn (fn (fn (fn (fn (fn (fn (fn (fn (fn (fn (fn (fn (fn (fn (fn (fn (fn (fn (fn (fn (fn (fn (fn (fn (fn (fn (fn (fn (fn (fn (fn (fn (fn (fn (fn (fn (fn (fn (fn (fn (fn (fn (fn (fn (fn (fn (fn (fn f0)))))))))))))))))))))))))))))))))))))))))))))))))))))))))))))))))))))))))))))))), rfl, Nat.zero_le _, rfl, rfl, hic, rfl, rfl, Nat.le_refl _, Nat.zero_le _, fun _ => rfl, (H2.nil 68), fun _ j hj => by cases hj⟩
    · rintro n l w3 ⟨q, y, i1, e1, xs, uc, spl, gl, capl, rfl, hfit, rfl, hq, hxs, hrd, hi1, hul, huo, hqc, hcl, hgl, H3, hel⟩
      obtain ⟨j, rfl⟩ := hfit.open
      refine nR80 ?_
      clear hfit
      refine run_seq ?_
      refine run_seq ?_
      refine run_region ?_
      refine ops_val (ex_move rfl) ?_
      refine ops_val (ex_move rfl) ?_
      refine ops_test (ex_lss rfl rfl) (fun hp62 => ?_) (fun hp62 => ?_)
      · have hql : q < nn := by omega
        refine ops_val (ex_move rfl) ?_
        refine nO80 ?_
        refine ops_yes rfl ?_
        refine ops_val (ex_move rfl) ?_
        refine ops_yes rfl ?_
        have HZ : Hp w0 w3 (bl (pr gp gr gb cb sb b i e ++ [(some go, U, cs)])) (pr gp gr gb cb sb b i1 e1 ++ [(some go, U, putAt cs o [Value.slice (hd gl) q capl]), (gl, 68, uc ++ spl)]) := H3
        have hk := pstop_r gp gr gb cb sb b i1 e1 _ (Hp.less (es := pr gp gr gb cb sb b i1 e1) HZ).here hcb hbl hi1
        refine ops_call_val (ex_call gf63 rfl) hk ?_
        intro w4 Hd
        replace hel := fun h0 j hj => Fr.to (hel h0 j hj) (Hp.front (R := [(some go, U, putAt cs o [Value.slice (hd gl) q capl]), (gl, 68, uc ++ spl)]) HZ.here Hd)
        have H4 := Hp.front HZ Hd
        refine nO80 ?_
        refine ops_yes rfl ?_
        refine ops_val (ex_not rfl) ?_
        refine ops_val (ex_pick_t rfl rfl) ?_
        refine ops_nil ?_
        refine nR80 ?_
        refine run_cond rfl (fun hb67 => ?_) (fun hb67 => ?_)
        · have he1 : e1 = 0 := by simpa using hb67
          refine run_skip ?_
          refine run_seq ?_
          refine run_block ?_
          refine run_seq ?_
          refine run_region ?_
          have HB := H4
          replace H4 := HB.here
          refine ops_alloc ty68 H4 ?_
          intro w5 gx H5 hgx
          refine ops_nil ?_
          refine nR80 ?_
          refine run_seq ?_
          refine run_region ?_
          refine ops_val (ex_move rfl) ?_
          have HX : Hp _ w5 _ ((pr gp gr gb cb sb b i1 e1 ++ [(some gx, 68, [.int .i64 0, .int .i64 0, .bool false, .int .i64 0, .int .i64 0, .int .i64 0, .int .i64 0])]) ++ [(some go, U, putAt cs o [Value.slice (hd gl) q capl]), (gl, 68, uc ++ spl)]) := H5.pick [0, 1, 2, 5, 3, 4] (by decide)
          obtain ⟨⟨xv, i2, e2⟩, hx⟩ : ∃ s, thmark.rd b i1 e1 = s := ⟨_, rfl⟩
          have hi2 : i2 ≤ b.length := by have := thmark.le (b := b) (e := e1) hi1; rw [hx] at this; exact this
          refine ops_call (ex_call_bound gf35 rfl rfl) (pmark_R gp gr gb cb sb b hcb hbl gx 0 i1 e1 68 _ _ HX.less.here hi1 (At.self _) (Nat.le_refl _)) ?_
          rintro _ w6 ⟨us, hus, huno, Hd, hMx⟩
          rw [hx] at Hd hMx
          simp only at Hd hMx
          have hpu : putAt [.int .i64 0, .int .i64 0, .bool false, .int .i64 0, .int .i64 0, .int .i64 0, .int .i64 0] 0 us = us := putAt_all hus
          rw [hpu] at Hd hMx
          have hnsz := Nat.le_trans HB.size HX.size
          have HC := HX.front Hd
          replace hMx := fun h0 => thmark.mono (ok' := Fr w6 w0.heap.size ((pr gp gr gb cb sb b i2 e2 ++ [(some gx, 68, us)]) ++ [(some go, U, putAt cs o [Value.slice (hd gl) q capl]), (gl, 68, uc ++ spl)])) (hMx h0) (fun p hp => ⟨by have := hp.1; omega, fun hq => by
            rw [bl_append] at hq
            rcases List.mem_append.1 hq with hq | hq
            · exact hp.2.1 hq
            · have h1 := bl_lt HX (b := p) (by rw [bl_append]; exact List.mem_append_right _ hq)
              have := hp.1
              omega, hp.2.2⟩)
          replace hel := fun h0 j hj => Fr.to (hel h0 j hj) HC
          have H6 := HC.here
          refine ops_nil ?_
          refine nR80 ?_
          refine run_mixZ 8 [(true, 0), (true, 1), (true, 2), (true, 3), (true, 4), (false, 5), (false, 6), (true, 7), (false, 8)] H6 [0, 1, 2, 3, 4] mixed (by decide) (by kernel_rfl) ?_
          rintro w7 hw7
          have H7 := Hp.drew H6; rw [← hw7] at H7
          refine mixz_p rfl ?_
          refine mix1_val (fun wz hz => ex_move rfl) ?_
          refine mixz_p rfl ?_
          refine mix1_val (fun wz hz => ex_move rfl) ?_
          refine mixz_p rfl ?_
          refine mix1_val (fun wz hz => ex_nilCheck rfl) ?_
          refine mixz_p rfl ?_
          refine mix1_val (fun wz hz => ex_load ty23 rfl (hz.cell (i := 4) rfl (show (putAt cs o [Value.slice (hd gl) q capl])[o]? = some (Value.slice (hd gl) q capl) from by rw [putAt_get (by simpa using hfit), if_neg (by omega), if_pos (by simp)]; simp))) ?_
          refine nZ80 ?_
          refine mixz_p rfl ?_
          refine mix1_val (fun wz hz => ex_loadN ty68 rfl (vs := us) hus (hz.cells (i := 3) rfl)) ?_
          refine mixz_o rfl ?_
          refine ops_build1 Tryz.underlying23 ty68 H7 rfl rfl hus (by decide) ?_
          intro w8 gn H8 hgn
          refine ops_nil ?_
          refine ⟨fun hne => H8.pick [0, 1, 2, 3, 4] (by decide), ?_⟩
          refine nZ80 ?_
          refine mixz_o rfl ?_
          refine ops_append Tryz.underlying23 ty68 (by decide) H8 5 (g := gl) (xs := uc) (sp := spl) rfl rfl hul hcl hqc hgl rfl (H8.rd (i := 6) (o := some gn) (xs := us) (sp := []) (by rw [List.append_nil]; rfl) (by rw [hus, Nat.one_mul]; rfl) (by decide)) huno (by omega) (by omega) (by decide) ?_
          intro w9 gl2 capl2 spl2 H9 hcl2 hqc2 hgl2
          refine ops_nil ?_
          refine ⟨fun hne => H9.pick [0, 1, 2, 3, 4] (by decide), ?_⟩
          refine nZ80 ?_
          refine mixz_p rfl ?_
          refine mix1_val (fun wz hz => ex_nilCheck rfl) ?_
          refine mixz_o rfl ?_
          refine ops_store1 ty23 H9 4 rfl rfl rfl rfl (by rw [putAt_len (by simpa using hfit)]; omega) rfl ?_
          intro w10 HS0
          have hset2 : (putAt cs o [Value.slice (hd gl) q capl]).set o (Value.slice (hd gl2) (q + 1) capl2) = putAt cs o [Value.slice (hd gl2) (q + 1) capl2] := by
            apply List.ext_getElem?
            intro j
            rw [List.getElem?_set, putAt_len (by simpa using hfit), putAt_get (by simpa using hfit), putAt_get (by simpa using hfit)]
            by_cases hj : o = j
            · subst hj; rw [if_pos rfl, if_pos (by omega), if_neg (by omega), if_pos (by simp)]; simp
            · rw [if_neg hj]
              split
              · rfl
              · rw [if_neg (by simp; omega), if_neg (by simp; omega)]
          have H10 := HS0
          refine ops_nil ?_
          refine ⟨fun hne => absurd rfl hne, ?_⟩
          refine nZ80 ?_
          refine mixz_nil ?_
          refine nR80 ?_
          refine run_nil (blk_normal ?_)
          refine run_region ?_
          refine ops_val (ex_move rfl) ?_
          refine ops_val (ex_add rfl rfl (IntWalk.i64_in _ (by omega))) ?_
          refine ops_val (ex_assign rfl) ?_
          refine ops_nil ?_
          refine nR80 ?_
          refine run_nil (rnd_normal ?_)
          have h1 := H10.pick [0, 1, 2, 4, 5] (by decide)
          rw [hset2] at h1
          have HR := (show ∀ (wa wb : World) (SS : List Nat), Hp wa wb SS ((pr gp gr gb cb sb b i2 e2 ++ [(some go, U, putAt cs o [Value.slice (hd gl2) (q + 1) capl2])]) ++ [(gl2, 68, (uc ++ us) ++ spl2)]) → Hp wa wb SS ((pr gp gr gb cb sb b i2 e2 ++ [(some go, U, putAt cs o [Value.slice (hd gl2) (q + 1) capl2])]) ++ [(gl2, 68, (uc ++ us) ++ spl2)]) from fun _ _ _ h => h) _ _ _ h1
          refine ⟨nn - (q + 1), by omega, q + 1, _, i2, e2, xs ++ [xv], uc ++ us, spl2, gl2, capl2, rfl, (fs (fs (fs (fn (fn (fn (fn (fs (fs (fn (fn (fn (fn (fn (fn (fn (fn (fn (fn (fn (fn (fn (fn (fn (fn (fn (fn (fn (fn (fn (fn (fn (fn (fn (fn (fn (fn (fn (fn (fn (fn (fn (fn (fn (fn (fn (fn (fn (fn (fn (fn (fn (fn (fn (fn (fn (fn (fn (fn (fn (fn (fn (fn (fn (fn (fn (fn (fn (fn (fn (fn (fn (fn (fn (fn (fn (fn (fn (fn (fn f0)))))))))))))))))))))))))))))))))))))))))))))))))))))))))))))))))))))))))))))))), rfl, by omega, by simp [hxs], ?_, hi2, by rw [List.length_append, hul, hus]; show q * 7 + 7 = (q + 1) * 7; omega, by rw [List.all_append, huo, huno]; rfl, hqc2, hcl2, hgl2, (HB.all HC).all HR, ?_⟩
          · rw [hrd, rdN_step hql he1 hx, List.append_assoc]; rfl
          · intro h0 j hj
            simp only [List.length_append, List.length_cons, List.length_nil] at hj
            by_cases hjq : j < xs.length
            · rw [List.getElem_append_left hjq]
              have hd1 : ((uc ++ us).drop (j * 7)).take 7 = (uc.drop (j * 7)).take 7 := by
                have h1 : (j + 1) * 7 ≤ q * 7 := Nat.mul_le_mul_right _ (by omega)
                rw [List.drop_append_of_le_length (by omega), List.take_append_of_le_length (by rw [List.length_drop]; omega)]
              rw [hd1]
              exact Fr.to (hel he1 j hjq) HR
            · have hjj : j = xs.length := by omega
              subst hjj
              rw [List.getElem_append_right (Nat.le_refl _)]
              have hd2 : ((uc ++ us).drop (xs.length * 7)).take 7 = us := by
                rw [hxs, ← hul, List.drop_left]
                exact List.take_of_length_le (Nat.le_of_eq hus)
              simp only [Nat.sub_self, List.getElem_cons_zero]
              rw [hd2]
              exact Fr.to (hMx h0) HR
        · have he1 : e1 ≠ 0 := by simpa using hb67
          refine run_exit ?_
          refine rnd_exit ?_
          refine blk_exit ?_
          refine run_nil ?_
          refine fin_end0 rfl ?_
          have hrw : (Th.many thmark true).rd b i e = (xs, i1, e1) := by rw [hmr, hrd]; first | (rw [rdN_bad _ _ _ he1]; simp) | (simp [rdN])
          unfold RdOut
          rw [hrw]
          have HF : Hp w0 w4 _ ((pr gp gr gb cb sb b i1 e1 ++ [(some go, U, putAt cs o [Value.slice (hd gl) q capl])]) ++ [(gl, 68, uc ++ spl)]) := H4
          refine ⟨[Value.slice (hd gl) q capl], rfl, rfl, HF.less, fun h0 => ⟨hd gl, capl, uc, by rw [hxs], ⟨by rw [hxs]; omega, fun _ => by decide⟩, by rw [hxs]; exact HF.rd (i := 4) (o := gl) (xs := uc) (sp := spl) rfl hul (by decide), fun _ p hp => ⟨place_new HF rfl (i := 0) rfl p hp, row_apart HF (i := 0) rfl p hp, HF.tw (i := 4) rfl p hp⟩, fun _ _ p hp => HF.tw (i := 4) rfl p hp, fun j hj => thmark.mono (hel h0 j hj) (fun p hp => ⟨hp.1, fun hq => hp.2.1 (show p ∈ bl ((pr gp gr gb cb sb b i1 e1 ++ [(some go, U, putAt cs o [Value.slice (hd gl) q capl])]) ++ [(gl, 68, uc ++ spl)]) from bl_left hq), hp.2.2⟩)⟩⟩
      · have hqm : q = nn := by omega
        subst hqm
        refine ops_val (ex_move rfl) ?_
        refine nO80 ?_
        refine ops_no rfl ?_
        refine ops_no rfl ?_
        refine nO80 ?_
        refine ops_no rfl ?_
        refine ops_val (ex_pick_f rfl rfl) ?_
        refine ops_nil ?_
        refine nR80 ?_
        refine run_cond_false rfl ?_
        refine run_exit ?_
        refine rnd_exit ?_
        refine blk_exit ?_
        refine run_nil ?_
        refine fin_end0 rfl ?_
        have hrw : (Th.many thmark true).rd b i e = (xs, i1, e1) := by rw [hmr, hrd]; first | (rw [rdN_bad _ _ _ he1]; simp) | (simp [rdN])
        unfold RdOut
        rw [hrw]
        have HF : Hp w0 w3 _ ((pr gp gr gb cb sb b i1 e1 ++ [(some go, U, putAt cs o [Value.slice (hd gl) q capl])]) ++ [(gl, 68, uc ++ spl)]) := H3
        refine ⟨[Value.slice (hd gl) q capl], rfl, rfl, HF.less, fun h0 => ⟨hd gl, capl, uc, by rw [hxs], ⟨by rw [hxs]; omega, fun _ => by decide⟩, by rw [hxs]; exact HF.rd (i := 4) (o := gl) (xs := uc) (sp := spl) rfl hul (by decide), fun _ p hp => ⟨place_new HF rfl (i := 0) rfl p hp, row_apart HF (i := 0) rfl p hp, HF.tw (i := 4) rfl p hp⟩, fun _ _ p hp => HF.tw (i := 4) rfl p hp, fun j hj => thmark.mono (hel h0 j hj) (fun p hp => ⟨hp.1, fun hq => hp.2.1 (show p ∈ bl ((pr gp gr gb cb sb b i1 e1 ++ [(some go, U, putAt cs o [Value.slice (hd gl) q capl])]) ++ [(gl, 68, uc ++ spl)]) from bl_left hq), hp.2.2⟩)⟩⟩
theorem plmark_R : PenRL Tryz.prog 34 35 (Th.many thmark true) := plmark_r
end Go.Proofs.YtoeobicpdeklaaaGreat
