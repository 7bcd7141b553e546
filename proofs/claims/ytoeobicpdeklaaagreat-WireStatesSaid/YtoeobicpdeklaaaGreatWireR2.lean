/- Walks of layer 2, printed by wip/gen/codec.py. -/
import Derived.Test.YtoeobicpdeklaaaGreatNrm
import Derived.Test.YtoeobicpdeklaaaGreatWireQ2
import Derived.Test.YtoeobicpdeklaaaGreatWireG
namespace Go.Proofs.YtoeobicpdeklaaaGreat
open Go Go.RowKit
set_option linter.unusedVariables false
attribute [local irreducible] Still Ops Does Cd
theorem pl31 : placesOf Tryz.prog 31 = some [(0, 1), (1, 1), (2, 1), (3, 1), (4, 1), (5, 1), (6, 1), (7, 1), (8, 1), (9, 1), (10, 1), (11, 7), (18, 7), (25, 1), (26, 1), (27, 1), (28, 1)] := by kernel_rfl
set_option maxRecDepth 100000 in
set_option maxHeartbeats 4000000 in
theorem cstate_w (gp : Nat) (g : Option Nat) (cap : Nat) (sp : List Value) (st : WS) (a : Addr) (x : thstate.X) (vs : List Value) (w0 : World) (H0 : Hp w0 w0 (bl (pw gp g cap sp st)) (pw gp g cap sp st)) (hP : POk 65536 g cap sp st) (hM : thstate.M w0 (fun b => b ∉ bl (pw gp g cap sp st)) x vs) (hC : Cl w0 (bl (pw gp g cap sp st)) a vs) :
    Does Tryz.prog 13 #[.pointer (some ⟨gp, 0, none⟩), .pointer (some a)] w0 (fun _ w' => PwOut gp (wAll (thstate.fl x) st) w0 (bl (pw gp g cap sp st)) w') := by
  refine does_of Tryz.func13 Tryz.ntmps13 rfl ?_
  change Run _ _ _ _ [.pointer (some ⟨gp, 0, none⟩), .pointer (some a), undef, undef, undef] _
  skip
  refine run_region ?_
  refine ops_val (ex_move rfl) ?_
  refine ops_call (ex_call gf14 rfl) (pstate_W gp g cap sp st a x vs w0 H0 hP hM hC (fun h => by cases h)) ?_
  rintro _ w1 hq
  refine ops_nil ?_
  change Run _ _ _ _ [_, _, _, _, _] _
  refine run_nil ?_
  refine fin_end0 rfl ?_
  exact hq
set_option maxRecDepth 100000 in
set_option maxHeartbeats 4000000 in
theorem cstate_r (gp gr : Nat) (gb : Option Nat) (cb : Nat) (sb : List Value) (b : List UInt8) (hcb : b.length ≤ cb) (hbl : b.length ≤ 65536) (go o i e : Nat) (U : TypeId) (cs : List Value) (w0 : World) (H0 : Hp w0 w0 (bl (pr gp gr gb cb sb b i e ++ [(some go, U, cs)])) (pr gp gr gb cb sb b i e ++ [(some go, U, cs)])) (hi : i ≤ b.length) (hat : At cs o thstate.zs) (hfit : o + thstate.sz ≤ cs.length) :
    Does Tryz.prog 19 #[.pointer (some ⟨gp, 0, none⟩), .pointer (some ⟨go, o, none⟩)] w0 (fun _ w' => RdOut (pr gp gr gb cb sb b) thstate go o U cs b i e w0.heap.size w0 (bl (pr gp gr gb cb sb b i e ++ [(some go, U, cs)])) w') := by
  refine does_of Tryz.func19 Tryz.ntmps19 rfl ?_
  change Run _ _ _ _ [.pointer (some ⟨gp, 0, none⟩), .pointer (some ⟨go, o, none⟩), undef, undef, undef] _
  skip
  refine run_region ?_
  refine ops_val (ex_move rfl) ?_
  refine ops_call (ex_call gf14 rfl) (pstate_R gp gr gb cb sb b hcb hbl go o i e U cs w0 H0 hi hat hfit) ?_
  rintro _ w1 hq
  refine ops_nil ?_
  change Run _ _ _ _ [_, _, _, _, _] _
  refine run_nil ?_
  refine fin_end0 rfl ?_
  exact hq
set_option maxRecDepth 100000 in
set_option maxHeartbeats 4000000 in
theorem state_wr (x : thstate.X) (cells : List Value) (w0 : World) (hM : thstate.M w0 (fun _ => True) x cells) :
    Does Tryz.prog 4 #[.agg cells.toArray] w0 (fun r w' => WrRes w0 w' r (wAll (thstate.fl x) W0)) := by
  refine does_of Tryz.func4 Tryz.ntmps4 rfl ?_
  change Run _ _ _ _ [.agg cells.toArray, undef, undef, undef, undef, undef, undef, undef] _
  have hlen : cells.length = 29 := thstate.len hM
  have H := Hp.refl w0
  refine run_seq ?_
  refine run_region ?_
  refine ops_box rfl rfl H ?_
  intro w1 g1 H1 hg1
  refine ops_val (ex_assign rfl) ?_
  refine ops_val (ex_assign rfl) ?_
  refine ops_nil ?_
  change Run _ _ _ _ [_, _, _, _, _, _, _, _] _
  refine run_seq ?_
  refine run_region ?_
  refine ops_val (ex_makeFunc rfl rfl) ?_
  refine ops_call_wr (ex_call gf12 rfl) (written_any (thstate.fl x) 13 [.pointer (some ⟨g1, 0, none⟩)] _ gf13 fun gp w2 HP => ?_) ?_
  · have hM1 := thstate.to hM H1 (fun _ _ => by simp)
    have hM2 := thstate.to hM1 HP (fun _ _ => by simp)
    exact cstate_w gp none 0 [] W0 ⟨g1, 0, none⟩ x cells w2 HP.here ⟨Nat.le_refl _, Nat.le_refl _, fun _ => rfl, Nat.zero_le _⟩ (thstate.mono hM2 fun _ h => h.2) ((H1.cl (i := 0) (S' := []) rfl (by simp)).to HP)
  intro w2 g cap sp q1 q2 q3 q4 Hd
  have H2 := H1.call0 Hd
  refine ops_val (ex_extract rfl rfl) ?_
  refine ops_val (ex_extract rfl rfl) ?_
  change Ops _ _ _ _ _ _ [_, _, _, _, _, _, _, _] _
  refine ops_val (ex_assign rfl) ?_
  refine ops_val (ex_assign rfl) ?_
  refine ops_nil ?_
  change Run _ _ _ _ [_, _, _, _, _, _, _, _] _
  refine run_ret ?_
  refine fin_ret2 rfl rfl rfl ?_
  exact ⟨g, cap, sp, rfl, q1, q2, q3, q4, H2.pick [1] (by decide)⟩
set_option maxRecDepth 100000 in
set_option maxHeartbeats 4000000 in
theorem state_rd (AA : Option Addr) (b : List UInt8) (c : Nat) (w0 : World) (hr : Rd w0 AA b.length 1 (u8s b)) (hb : b.length ≤ 211106232532900) :
    Does Tryz.prog 7 #[.slice AA b.length c] w0 (fun r w' => RdRes thstate b w0 w' r) := by
  refine does_of Tryz.func7 Tryz.ntmps7 rfl ?_
  refine nR14 ?_
  have H := Hp.refl w0
  refine run_seq ?_
  refine run_region ?_
  refine ops_alloc ty31 H ?_
  intro w1 g1 H1 hg1
  refine ops_val (ex_assign rfl) ?_
  refine ops_nil ?_
  refine nR14 ?_
  refine run_seq ?_
  refine run_region ?_
  refine ops_alloc ty31 H1 ?_
  intro w2 g2 H2 hg2
  refine ops_nil ?_
  refine nR14 ?_
  refine run_seq ?_
  refine run_seq ?_
  refine run_region ?_
  refine ops_val (ex_move rfl) ?_
  refine ops_val (ex_makeFunc rfl rfl) ?_
  have HX := Hp.old (H2.at (i := 1) rfl)
  have hk := read_any thstate AA b c g2 31 [.int .i64 0, .int .i64 0, .bool false, .string .empty, .string .empty, .int .i64 0, .slice none 0 0, .slice none 0 0, .slice none 0 0, .slice none 0 0, .slice none 0 0, .int .i64 0, .int .i64 0, .int .i64 0, .string .empty, .string .empty, .int .i64 0, .int .i64 0, .int .i64 0, .int .i64 0, .int .i64 0, .string .empty, .string .empty, .int .i64 0, .int .i64 0, .slice none 0 0, .int .i64 0, .int .i64 0, .int .i64 0] 19 [.pointer (some ⟨g2, 0, none⟩)] _ HX rfl (hr.to0 H2) (fun h0 a ha hq => by
    simp only [List.mem_singleton] at hq
    have hlt := H2.place (i := 1) rfl
    have := H2.size
    have hc := World.block_lt_of_cell? _ _ (hr.cells a ha 0 _ (u8s_get h0))
    rw [Addr.add_zero'] at hc
    rcases hlt with h1 | h1
    · simp at h1
    · omega) gf19 (fun gp gr gb cb sb w1 hcb hbl HP => cstate_r gp gr gb cb sb b hcb hbl g2 0 0 0 31 _ w1 HP.here (Nat.zero_le _) (At.self _) (Nat.le_refl _))
  refine ops_call (ex_call gf18 rfl) hk ?_
  rintro _ w3 ⟨rfl, cs2, hl, Hd, hM⟩
  have hsz1 := H2.size
  have hg1 : g1 < w2.heap.size := H2.lt (i := 0) rfl
  have hg2 : g2 < w2.heap.size := H2.lt (i := 1) rfl
  have H3 := (H2.call1 (i := 1) rfl Hd).pick [0, 2] (by decide)
  refine ops_val (ex_assign rfl) ?_
  refine ops_nil ?_
  refine nR14 ?_
  refine run_seq ?_
  refine run_region ?_
  refine ops_val (ex_move rfl) ?_
  refine ops_test (ex_neq rfl rfl) (fun hp10 => ?_) (fun hp10 => ?_)
  · have he : errR thstate b ≠ 0 := by omega
    refine ops_nil ?_
    refine nR14 ?_
    refine run_cond_true rfl ?_
    refine run_seq ?_
    refine run_region ?_
    refine ops_val (ex_build ty31 pl31 rfl rfl) ?_
    refine ops_val (ex_move rfl) ?_
    refine ops_store ty31 H3 0 rfl rfl rfl rfl rfl (by first | decide | simp) rfl ?_
    intro w4 H4
    refine ops_val (ex_assign rfl) ?_
    refine ops_nil ?_
    refine nR14 ?_
    refine run_ret ?_
    refine fin_cell_tmp rfl ty31 rfl rfl rfl (H4.cells (i := 0) rfl) ?_
    exact ⟨_, rfl, by rw [gotR_bad he]; exact thstate.zM _ _, H4.pick [] (by decide)⟩
  · have he : errR thstate b = 0 := by omega
    have hm := hM he
    have HA := H3
    replace H3 := HA.here
    refine ops_nil ?_
    refine nR14 ?_
    refine run_cond_false rfl ?_
    refine run_skip ?_
    refine run_seq ?_
    refine run_region ?_
    refine ops_val (ex_loadN ty31 rfl (vs := cs2) hl (H3.cells (i := 1) rfl)) ?_
    refine ops_store ty31 H3 0 rfl rfl rfl rfl hl (by rw [hl]; decide) (thstate.ones hm) ?_
    intro w4 H4
    have hpu : putAt [.int .i64 0, .int .i64 0, .bool false, .string .empty, .string .empty, .int .i64 0, .slice none 0 0, .slice none 0 0, .slice none 0 0, .slice none 0 0, .slice none 0 0, .int .i64 0, .int .i64 0, .int .i64 0, .string .empty, .string .empty, .int .i64 0, .int .i64 0, .int .i64 0, .int .i64 0, .int .i64 0, .string .empty, .string .empty, .int .i64 0, .int .i64 0, .slice none 0 0, .int .i64 0, .int .i64 0, .int .i64 0] 0 cs2 = cs2 := putAt_all hl
    rw [hpu] at H4
    refine ops_val (ex_assign rfl) ?_
    refine ops_nil ?_
    refine nR14 ?_
    refine run_ret ?_
    refine fin_cell_tmp rfl ty31 rfl rfl hl (H4.cells (i := 0) rfl) ?_
    have hm2 := thstate.to hm H4 (fun p hp hq => by simp [bl] at hq; have := hp.1; rcases hq with hq | hq <;> omega)
    exact ⟨cs2, by rw [he]; rfl, by rw [(gotR_ok he).1]; exact thstate.mono hm2 (fun p hp => ⟨by have := hp.1.1; omega, hp.1.2.2.to H4 (by intro hq; simp [bl] at hq; have := hp.1.1; rcases hq with hq | hq <;> omega)⟩), (HA.all H4).pick [] (by decide)⟩
end Go.Proofs.YtoeobicpdeklaaaGreat
