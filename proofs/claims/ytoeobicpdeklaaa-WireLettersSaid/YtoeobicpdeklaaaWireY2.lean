/- Walks of layer 2, printed by wip/gen/codec.py. -/
import Derived.Test.YtoeobicpdeklaaaPost
import Derived.Test.YtoeobicpdeklaaaWireG
namespace Go.Proofs.Ytoeobicpdeklaaa
open Go Go.RowKit
set_option linter.unusedVariables false
attribute [local irreducible] Still Ops Does Cd
theorem pl72 : placesOf Try.prog 72 = some [(0, 1), (1, 1), (2, 1), (3, 2), (5, 1), (6, 1), (7, 1), (8, 1), (9, 4)] := by kernel_rfl
set_option maxRecDepth 100000 in
set_option maxHeartbeats 4000000 in
theorem cletter_w (gp : Nat) (g : Option Nat) (cap : Nat) (sp : List Value) (st : WS) (gi gl : Nat) (n : Int) (x : thletter.X) (vs : List Value) (w0 : World) (H0 : Hp w0 w0 (bl (pw gp g cap sp st)) (pw gp g cap sp st)) (hP : POk 65536 g cap sp st) (hn : -9223372036854775808 ≤ n ∧ n ≤ 9223372036854775807) (hM : thletter.M w0 (fun b => b ∉ bl (pw gp g cap sp st)) x vs) (hC : Cl w0 (bl (pw gp g cap sp st)) ⟨gl, 0, none⟩ vs) (hI : Cl w0 (bl (pw gp g cap sp st)) ⟨gi, 0, none⟩ [.int .i64 n]) :
    Does Try.prog 60 #[.pointer (some ⟨gp, 0, none⟩), .pointer (some ⟨gi, 0, none⟩), .pointer (some ⟨gl, 0, none⟩)] w0 (fun _ w' => PwOut gp (wAll (.int n :: thletter.fl x) st) w0 (bl (pw gp g cap sp st)) w') := by
  refine does_of Try.func60 Try.ntmps60 rfl ?_
  change Run _ _ _ _ [.pointer (some ⟨gp, 0, none⟩), .pointer (some ⟨gi, 0, none⟩), .pointer (some ⟨gl, 0, none⟩), undef, undef, undef, undef, undef, undef] _
  have HS : WSt false gp ⟨gl, 0, none⟩ w0 (bl (pw gp g cap sp st)) w0 st thletter x vs g cap sp := ⟨H0, hP, hM, hC, fun h => by cases h⟩
  have H := HS.H.here
  refine run_seq ?_
  refine run_region ?_
  refine ops_val (ex_move rfl) ?_
  refine ops_buildSlice Try.underlying177 ty126 H (cs := [.pointer (some ⟨gi, 0, none⟩)]) rfl (by decide) rfl ?_
  intro w1 gs H1 hgs
  have HQ : Hp w0 w1 (bl (pw gp g cap sp st)) (pw gp g cap sp st ++ [(some gs, 126, [.pointer (some ⟨gi, 0, none⟩)])]) := H1
  have hrp := HQ.rd (i := 2) (o := some gs) (T := 126) (xs := [.pointer (some ⟨gi, 0, none⟩)]) (sp := []) rfl (n := 1) (sz := 1) rfl (by decide)
  refine ops_call (ex_call gf61 rfl) (pint_W gp g cap sp st ⟨gi, 0, none⟩ 0 1 1 [.int n] [.int .i64 n] _ _ (by decide) HQ.less.here hP ⟨rfl, FPs.one ⟨rfl, hn⟩⟩ (by rw [Addr.add_zero']; exact hI.to HQ.less) hrp (row_apart HQ (i := 0) rfl)) ?_
  rintro _ w2 ⟨g2, cap2, sp2, hP2, Hd⟩
  have HS2 := HS.next hP2 ((HQ.front Hd).less)
  have H2 := HS2.H.here
  refine ops_nil ?_
  change Run _ _ _ _ [_, _, _, _, _, _, _, _, _] _
  refine run_region ?_
  refine ops_val (ex_move rfl) ?_
  refine ops_call (ex_call gf62 rfl) (HS2.one (o := 0) pletter_W (by decide) (fun _ _ hM => hM) (At.self _)) ?_
  rintro _ w3 ⟨g3, cap3, sp3, HS3⟩
  refine ops_nil ?_
  change Run _ _ _ _ [_, _, _, _, _, _, _, _, _] _
  refine run_nil ?_
  refine fin_end0 rfl ?_
  exact HS3.out rfl
set_option maxRecDepth 100000 in
set_option maxHeartbeats 4000000 in
theorem letter_wr (n : Int) (x : thletter.X) (cells : List Value) (w0 : World) (hn : -9223372036854775808 ≤ n ∧ n ≤ 9223372036854775807) (hM : thletter.M w0 (fun _ => True) x cells) :
    Does Try.prog 31 #[.int .i64 n, .agg cells.toArray] w0 (fun r w' => WrRes w0 w' r (wAll (.int n :: thletter.fl x) W0)) := by
  refine does_of Try.func31 Try.ntmps31 rfl ?_
  change Run _ _ _ _ [.int .i64 n, .agg cells.toArray, undef, undef, undef, undef, undef, undef, undef, undef] _
  have hlen : cells.length = 13 := thletter.len hM
  have H := Hp.refl w0
  refine run_seq ?_
  refine run_region ?_
  refine ops_box rfl rfl H ?_
  intro w1 g1 H1 hg1
  refine ops_box rfl rfl H1 ?_
  intro w2 g2 H2 hg2
  refine ops_val (ex_assign rfl) ?_
  refine ops_val (ex_assign rfl) ?_
  refine ops_nil ?_
  change Run _ _ _ _ [_, _, _, _, _, _, _, _, _, _] _
  refine run_seq ?_
  refine run_region ?_
  refine ops_val (ex_makeFunc rfl rfl) ?_
  refine ops_call_wr (ex_call gf38 rfl) (written_any (.int n :: thletter.fl x) 60 [.pointer (some ⟨g1, 0, none⟩), .pointer (some ⟨g2, 0, none⟩)] _ gf60 fun gp w2 HP => ?_) ?_
  · have hM1 := thletter.to hM H2 (fun _ _ => by simp)
    have hM2 := thletter.to hM1 HP (fun _ _ => by simp)
    exact cletter_w gp none 0 [] W0 g1 g2 n x cells w2 HP.here ⟨Nat.le_refl _, Nat.le_refl _, fun _ => rfl, Nat.zero_le _⟩ hn (thletter.mono hM2 fun _ h => h.2) ((H2.cl (i := 1) (S' := []) rfl (by simp)).to HP) ((H2.cl (i := 0) (S' := []) rfl (by simp)).to HP)
  intro w3 g cap sp q1 q2 q3 q4 Hd
  have H3 := H2.call0 Hd
  refine ops_val (ex_extract rfl rfl) ?_
  refine ops_val (ex_extract rfl rfl) ?_
  change Ops _ _ _ _ _ _ [_, _, _, _, _, _, _, _, _, _] _
  refine ops_val (ex_assign rfl) ?_
  refine ops_val (ex_assign rfl) ?_
  refine ops_nil ?_
  change Run _ _ _ _ [_, _, _, _, _, _, _, _, _, _] _
  refine run_ret ?_
  refine fin_ret2 rfl rfl rfl ?_
  exact ⟨g, cap, sp, rfl, q1, q2, q3, q4, H3.pick [2] (by decide)⟩
set_option maxRecDepth 100000 in
set_option maxHeartbeats 4000000 in
theorem cletter_r (gp gr : Nat) (gb : Option Nat) (cb : Nat) (sb : List Value) (b : List UInt8) (hcb : b.length ≤ cb) (hbl : b.length ≤ 65536) (gl gi : Nat) (w0 : World) (H0 : Hp w0 w0 (bl (pr gp gr gb cb sb b 0 0 ++ [(some gl, 72, [.int .i64 0, .int .i64 0, .int .i64 0, .int .i64 0, .int .i64 0, .int .i64 0, .int .i64 0, .slice none 0 0, .slice none 0 0, .int .i64 0, .int .i64 0, .int .u32 0, .slice none 0 0]), (some gi, 3, [.int .i64 0])])) (pr gp gr gb cb sb b 0 0 ++ [(some gl, 72, [.int .i64 0, .int .i64 0, .int .i64 0, .int .i64 0, .int .i64 0, .int .i64 0, .int .i64 0, .slice none 0 0, .slice none 0 0, .int .i64 0, .int .i64 0, .int .u32 0, .slice none 0 0]), (some gi, 3, [.int .i64 0])])) :
    Does Try.prog 64 #[.pointer (some ⟨gp, 0, none⟩), .pointer (some ⟨gi, 0, none⟩), .pointer (some ⟨gl, 0, none⟩)] w0 (fun _ w' => RdX gp gr gb cb sb b gl gi w0.heap.size w0 (bl (pr gp gr gb cb sb b 0 0 ++ [(some gl, 72, [.int .i64 0, .int .i64 0, .int .i64 0, .int .i64 0, .int .i64 0, .int .i64 0, .int .i64 0, .slice none 0 0, .slice none 0 0, .int .i64 0, .int .i64 0, .int .u32 0, .slice none 0 0]), (some gi, 3, [.int .i64 0])])) w') := by
  refine does_of Try.func64 Try.ntmps64 rfl ?_
  change Run _ _ _ _ [.pointer (some ⟨gp, 0, none⟩), .pointer (some ⟨gi, 0, none⟩), .pointer (some ⟨gl, 0, none⟩), undef, undef, undef, undef, undef, undef] _
  have H := H0
  refine run_seq ?_
  refine run_region ?_
  refine ops_val (ex_move rfl) ?_
  refine ops_buildSlice Try.underlying177 ty126 H (cs := [.pointer (some ⟨gi, 0, none⟩)]) rfl (by decide) rfl ?_
  intro w1 gs H1 hgs
  have HQ : Hp w0 w1 _ ((pr gp gr gb cb sb b 0 0 ++ [(some gi, 3, [.int .i64 0])]) ++ [(some gl, 72, [.int .i64 0, .int .i64 0, .int .i64 0, .int .i64 0, .int .i64 0, .int .i64 0, .int .i64 0, .slice none 0 0, .slice none 0 0, .int .i64 0, .int .i64 0, .int .u32 0, .slice none 0 0]), (some gs, 126, [.pointer (some ⟨gi, 0, none⟩)])]) := H1.pick [0, 1, 2, 4, 3, 5] (by decide)
  have hrp := HQ.rd (i := 5) (o := some gs) (T := 126) (xs := [.pointer (some ⟨gi, 0, none⟩)]) (sp := []) rfl (n := 1) (sz := 1) rfl (by decide)
  refine ops_call (ex_call gf61 rfl) (pint_R gp gr gb cb sb b hcb hbl gi 0 1 1 0 0 3 [.int .i64 0] _ _ (by decide) HQ.less.here (Nat.zero_le _) (At.self _) (by decide) hrp (row_apart HQ (i := 1) rfl)) ?_
  rintro _ w2 hq
  obtain ⟨n, i1, e1, h1⟩ : ∃ n i1 e1, rdF .int b 0 0 = (.int n, i1, e1) := ⟨_, _, _, rfl⟩
  have hx1 : (Th.flat (List.replicate 1 .int)).rd b 0 0 = ([.int n], i1, e1) := by
    show ([(rdF .int b 0 0).1], (rdF .int b 0 0).2) = _
    rw [h1]
  obtain ⟨us1, hul1, huo1, Hd, hMx⟩ := hq.get hx1
  obtain ⟨v, rfl⟩ : ∃ v, us1 = [v] := by
    match us1, hul1 with
    | [v], _ => exact ⟨v, rfl⟩
  have hi1 : i1 ≤ b.length := by have := rdF_le (k := .int) (b := b) (i := 0) (e := 0) (Nat.zero_le _); rw [h1] at this; exact this
  have hv : e1 = 0 → v = .int .i64 n ∧ (-9223372036854775808 ≤ n ∧ n ≤ 9223372036854775807) := fun h0 => by
    obtain ⟨v2, hv2, hv3⟩ := (hMx h0).2.head
    cases hv2
    exact hv3
  have hgs : w1.heap.size ≥ w0.heap.size := HQ.size
  have H2 := (HQ.front Hd).pick [0, 1, 2, 4, 3] (by decide)
  refine ops_nil ?_
  change Run _ _ _ _ [_, _, _, _, _, _, _, _, _] _
  refine run_region ?_
  refine ops_val (ex_move rfl) ?_
  have HQ2 : Hp w0 w2 _ ((pr gp gr gb cb sb b i1 e1 ++ [(some gl, 72, [.int .i64 0, .int .i64 0, .int .i64 0, .int .i64 0, .int .i64 0, .int .i64 0, .int .i64 0, .slice none 0 0, .slice none 0 0, .int .i64 0, .int .i64 0, .int .u32 0, .slice none 0 0])]) ++ [(some gi, 3, [v])]) := H2
  refine ops_call (ex_call gf62 rfl) (pletter_RB gp gr gb cb sb b hcb hbl gl 0 i1 e1 72 [.int .i64 0, .int .i64 0, .int .i64 0, .int .i64 0, .int .i64 0, .int .i64 0, .int .i64 0, .slice none 0 0, .slice none 0 0, .int .i64 0, .int .i64 0, .int .u32 0, .slice none 0 0] _ HQ2.less.here hi1 (At.self _) (Nat.le_refl _)) ?_
  rintro _ w3 hq2
  obtain ⟨⟨x, i2, e2⟩, hx2⟩ : ∃ s, thletter.rd b i1 e1 = s := ⟨_, rfl⟩
  have hi2 : i2 ≤ b.length := by have := thletter.le (b := b) (i := i1) (e := e1) hi1; rw [hx2] at this; exact this
  obtain ⟨us, j, p, q, hul, hj, Hd2, hor, hM⟩ := outB_x hq2 hx2 hi2
  have hpu : putAt [.int .i64 0, .int .i64 0, .int .i64 0, .int .i64 0, .int .i64 0, .int .i64 0, .int .i64 0, .slice none 0 0, .slice none 0 0, .int .i64 0, .int .i64 0, .int .u32 0, .slice none 0 0] 0 us = us := putAt_all hul
  rw [hpu] at Hd2 hM
  have hsz2 := HQ2.size
  have HE := HQ2.front Hd2
  refine ops_nil ?_
  change Run _ _ _ _ [_, _, _, _, _, _, _, _, _] _
  refine run_nil ?_
  refine fin_end0 rfl ?_
  have hp := post_rd h1 hx2
  unfold RdX
  rw [hp]
  refine ⟨us, v, j, p, q, hul, hj, HE, hor, fun h0 => ?_⟩
  have he1 : e1 = 0 := by
    apply Classical.byContradiction
    intro hne
    have hbad := thletter.bad (b := b) (i := i1) (e := e1) hne
    rw [hx2] at hbad
    exact hne (by have := congrArg (·.2) hbad; simp only at this; rw [← this]; exact h0)
  obtain ⟨hone, hM⟩ := hM h0
  obtain ⟨rfl, hn⟩ := hv he1
  refine ⟨hone, n, x, rfl, rfl, hn, thletter.mono hM fun k hk => ⟨by have := hk.1; omega, fun hb => ?_, hk.2.2⟩⟩
  have hgi : gi < _ := HQ2.lt (i := 4) rfl
  have hb2 : k ∈ bl (prX gp gr gb cb sb b j p q ++ [(some gl, 72, us)]) ++ bl [(some gi, 3, [Value.int .i64 n])] := by rw [← bl_append]; exact hb
  rcases List.mem_append.1 hb2 with hb | hb
  · exact hk.2.1 hb
  · simp [bl] at hb
    have := hk.1
    omega
end Go.Proofs.Ytoeobicpdeklaaa
