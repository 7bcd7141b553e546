/- Walks of layer 2, printed by wip/gen/codec.py. -/
import Derived.Test.YtoeobicpdeklaaaWireG
import Derived.Test.YtoeobicpdeklaaaWireE
namespace Go.Proofs.Ytoeobicpdeklaaa
open Go Go.RowKit
set_option linter.unusedVariables false
attribute [local irreducible] Still Ops Does Cd
set_option maxRecDepth 100000 in
set_option maxHeartbeats 4000000 in
theorem ccommand_w (gp : Nat) (g : Option Nat) (cap : Nat) (sp : List Value) (st : WS) (a : Addr) (x : thcommand.X) (vs : List Value) (w0 : World) (H0 : Hp w0 w0 (bl (pw gp g cap sp st)) (pw gp g cap sp st)) (hP : POk 65536 g cap sp st) (hM : thcommand.M w0 (fun b => b ∉ bl (pw gp g cap sp st)) x vs) (hC : Cl w0 (bl (pw gp g cap sp st)) a vs) :
    Does Try.prog 39 #[.pointer (some ⟨gp, 0, none⟩), .pointer (some a)] w0 (fun _ w' => PwOut gp (wAll (thcommand.fl x) st) w0 (bl (pw gp g cap sp st)) w') := by
  refine does_of Try.func39 Try.ntmps39 rfl ?_
  change Run _ _ _ _ [.pointer (some ⟨gp, 0, none⟩), .pointer (some a), undef, undef, undef] _
  skip
  refine run_region ?_
  refine ops_val (ex_move rfl) ?_
  refine ops_call (ex_call gf40 rfl) (pcommand_W gp g cap sp st a x vs w0 H0 hP hM hC (fun h => by cases h)) ?_
  rintro _ w1 hq
  refine ops_nil ?_
  change Run _ _ _ _ [_, _, _, _, _] _
  refine run_nil ?_
  refine fin_end0 rfl ?_
  exact hq
set_option maxRecDepth 100000 in
set_option maxHeartbeats 4000000 in
theorem ccommand_r (gp gr : Nat) (gb : Option Nat) (cb : Nat) (sb : List Value) (b : List UInt8) (hcb : b.length ≤ cb) (hbl : b.length ≤ 65536) (go o i e : Nat) (U : TypeId) (cs : List Value) (w0 : World) (H0 : Hp w0 w0 (bl (pr gp gr gb cb sb b i e ++ [(some go, U, cs)])) (pr gp gr gb cb sb b i e ++ [(some go, U, cs)])) (hi : i ≤ b.length) (hat : At cs o thcommand.zs) (hfit : o + thcommand.sz ≤ cs.length) :
    Does Try.prog 44 #[.pointer (some ⟨gp, 0, none⟩), .pointer (some ⟨go, o, none⟩)] w0 (fun _ w' => RdOut (pr gp gr gb cb sb b) thcommand go o U cs b i e w0.heap.size w0 (bl (pr gp gr gb cb sb b i e ++ [(some go, U, cs)])) w') := by
  refine does_of Try.func44 Try.ntmps44 rfl ?_
  change Run _ _ _ _ [.pointer (some ⟨gp, 0, none⟩), .pointer (some ⟨go, o, none⟩), undef, undef, undef] _
  skip
  refine run_region ?_
  refine ops_val (ex_move rfl) ?_
  refine ops_call (ex_call gf40 rfl) (pcommand_R gp gr gb cb sb b hcb hbl go o i e U cs w0 H0 hi hat hfit) ?_
  rintro _ w1 hq
  refine ops_nil ?_
  change Run _ _ _ _ [_, _, _, _, _] _
  refine run_nil ?_
  refine fin_end0 rfl ?_
  exact hq
set_option maxRecDepth 100000 in
set_option maxHeartbeats 4000000 in
theorem command_wr (x : thcommand.X) (cells : List Value) (w0 : World) (hM : thcommand.M w0 (fun _ => True) x cells) :
    Does Try.prog 10 #[.agg cells.toArray] w0 (fun r w' => WrRes w0 w' r (wAll (thcommand.fl x) W0)) := by
  refine does_of Try.func10 Try.ntmps10 rfl ?_
  change Run _ _ _ _ [.agg cells.toArray, undef, undef, undef, undef, undef, undef, undef] _
  have hlen : cells.length = 25 := thcommand.len hM
  have H := Hp.refl w0
  refine run_seq ?_
  refine run_region ?_
  refine ops_box rfl rfl H ?_
  intro w1 g1 H1 hg1
  refine ops_val (ex_assign rfl) ?_
  refine ops_val (ex_assign rfl) ?_
  refine ops_nil ?_
  change Run _ _ _ _ [_, _, _, _, _, _, _, _] _
  refine run_seq ?_
  refine run_region ?_
  refine ops_val (ex_makeFunc rfl rfl) ?_
  refine ops_call_wr (ex_call gf38 rfl) (written_any (thcommand.fl x) 39 [.pointer (some ⟨g1, 0, none⟩)] _ gf39 fun gp w2 HP => ?_) ?_
  · have hM1 := thcommand.to hM H1 (fun _ _ => by simp)
    have hM2 := thcommand.to hM1 HP (fun _ _ => by simp)
    exact ccommand_w gp none 0 [] W0 ⟨g1, 0, none⟩ x cells w2 HP.here ⟨Nat.le_refl _, Nat.le_refl _, fun _ => rfl, Nat.zero_le _⟩ (thcommand.mono hM2 fun _ h => h.2) ((H1.cl (i := 0) (S' := []) rfl (by simp)).to HP)
  intro w2 g cap sp q1 q2 q3 q4 Hd
  have H2 := H1.call0 Hd
  refine ops_val (ex_extract rfl rfl) ?_
  refine ops_val (ex_extract rfl rfl) ?_
  change Ops _ _ _ _ _ _ [_, _, _, _, _, _, _, _] _
  refine ops_val (ex_assign rfl) ?_
  refine ops_val (ex_assign rfl) ?_
  refine ops_nil ?_
  change Run _ _ _ _ [_, _, _, _, _, _, _, _] _
  refine run_ret ?_
  refine fin_ret2 rfl rfl rfl ?_
  exact ⟨g, cap, sp, rfl, q1, q2, q3, q4, H2.pick [1] (by decide)⟩
set_option maxRecDepth 100000 in
set_option maxHeartbeats 4000000 in
theorem command_rd (AA : Option Addr) (b : List UInt8) (c : Nat) (w0 : World) (hr : Rd w0 AA b.length 1 (u8s b)) (hb : b.length ≤ 211106232532900) :
    Does Try.prog 13 #[.slice AA b.length c] w0 (fun r w' => RdRes thcommand b w0 w' r) := by
  refine does_of Try.func13 Try.ntmps13 rfl ?_
  change Run _ _ _ _ [.slice AA b.length c, undef, undef, undef, undef, undef, undef, undef, undef, undef, undef, undef, undef, undef] _
  have H := Hp.refl w0
  refine run_seq ?_
  refine run_region ?_
  refine ops_alloc ty28 H ?_
  intro w1 g1 H1 hg1
  refine ops_val (ex_assign rfl) ?_
  refine ops_nil ?_
  change Run _ _ _ _ [_, _, _, _, _, _, _, _, _, _, _, _, _, _] _
  refine run_seq ?_
  refine run_region ?_
  refine ops_alloc ty28 H1 ?_
  intro w2 g2 H2 hg2
  refine ops_nil ?_
  change Run _ _ _ _ [_, _, _, _, _, _, _, _, _, _, _, _, _, _] _
  refine run_seq ?_
  refine run_seq ?_
  refine run_region ?_
  refine ops_val (ex_move rfl) ?_
  refine ops_val (ex_makeFunc rfl rfl) ?_
  have HX := Hp.old (H2.at (i := 1) rfl)
  have hk := read_any thcommand AA b c g2 28 [.int .i64 0, .int .i64 0, .int .i64 0, .int .i64 0, .int .i64 0, .int .i64 0, .string .empty, .int .i64 0, .int .i64 0, .int .i64 0, .bool false, .int .i64 0, .string .empty, .string .empty, .int .i64 0, .int .i64 0, .int .i64 0, .int .i64 0, .int .i64 0, .int .i64 0, .string .empty, .string .empty, .int .i64 0, .int .i64 0, .slice none 0 0] 44 [.pointer (some ⟨g2, 0, none⟩)] _ HX rfl (hr.to0 H2) (fun h0 a ha hq => by
    simp only [List.mem_singleton] at hq
    have hlt := H2.place (i := 1) rfl
    have := H2.size
    have hc := World.block_lt_of_cell? _ _ (hr.cells a ha 0 _ (u8s_get h0))
    rw [Addr.add_zero'] at hc
    rcases hlt with h1 | h1
    · simp at h1
    · omega) gf44 (fun gp gr gb cb sb w1 hcb hbl HP => ccommand_r gp gr gb cb sb b hcb hbl g2 0 0 0 28 _ w1 HP.here (Nat.zero_le _) (At.self _) (Nat.le_refl _))
  refine ops_call (ex_call gf43 rfl) hk ?_
  rintro _ w3 ⟨rfl, cs2, hl, Hd, hM⟩
  have hsz1 := H2.size
  have hg1 : g1 < w2.heap.size := H2.lt (i := 0) rfl
  have hg2 : g2 < w2.heap.size := H2.lt (i := 1) rfl
  have H3 := (H2.call1 (i := 1) rfl Hd).pick [0, 2] (by decide)
  refine ops_val (ex_assign rfl) ?_
  refine ops_nil ?_
  change Run _ _ _ _ [_, _, _, _, _, _, _, _, _, _, _, _, _, _] _
  refine run_seq ?_
  refine run_region ?_
  refine ops_val (ex_move rfl) ?_
  refine ops_test (ex_neq rfl rfl) (fun hp10 => ?_) (fun hp10 => ?_)
  · have he : errR thcommand b ≠ 0 := by omega
    refine ops_nil ?_
    change Run _ _ _ _ [_, _, _, _, _, _, _, _, _, _, _, _, _, _] _
    refine run_cond_true rfl ?_
    refine run_seq ?_
    refine run_region ?_
    refine ops_val (ex_build ty28 pl28 rfl rfl) ?_
    refine ops_val (ex_move rfl) ?_
    refine ops_store ty28 H3 0 rfl rfl rfl rfl rfl (by first | decide | simp) rfl ?_
    intro w4 H4
    refine ops_val (ex_assign rfl) ?_
    refine ops_nil ?_
    change Run _ _ _ _ [_, _, _, _, _, _, _, _, _, _, _, _, _, _] _
    refine run_ret ?_
    refine fin_cell_tmp rfl ty28 rfl rfl rfl (H4.cells (i := 0) rfl) ?_
    exact ⟨_, rfl, by rw [gotR_bad he]; exact thcommand.zM _ _, H4.pick [] (by decide)⟩
  · have he : errR thcommand b = 0 := by omega
    have hm := hM he
    have HA := H3
    replace H3 := HA.here
    refine ops_nil ?_
    change Run _ _ _ _ [_, _, _, _, _, _, _, _, _, _, _, _, _, _] _
    refine run_cond_false rfl ?_
    refine run_skip ?_
    refine run_seq ?_
    refine run_region ?_
    refine ops_val (ex_loadN ty28 rfl (vs := cs2) hl (H3.cells (i := 1) rfl)) ?_
    refine ops_store ty28 H3 0 rfl rfl rfl rfl hl (by rw [hl]; decide) (thcommand.ones hm) ?_
    intro w4 H4
    have hpu : putAt [.int .i64 0, .int .i64 0, .int .i64 0, .int .i64 0, .int .i64 0, .int .i64 0, .string .empty, .int .i64 0, .int .i64 0, .int .i64 0, .bool false, .int .i64 0, .string .empty, .string .empty, .int .i64 0, .int .i64 0, .int .i64 0, .int .i64 0, .int .i64 0, .int .i64 0, .string .empty, .string .empty, .int .i64 0, .int .i64 0, .slice none 0 0] 0 cs2 = cs2 := putAt_all hl
    rw [hpu] at H4
    refine ops_val (ex_assign rfl) ?_
    refine ops_nil ?_
    change Run _ _ _ _ [_, _, _, _, _, _, _, _, _, _, _, _, _, _] _
    refine run_ret ?_
    refine fin_cell_tmp rfl ty28 rfl rfl hl (H4.cells (i := 0) rfl) ?_
    have hm2 := thcommand.to hm H4 (fun p hp hq => by simp [bl] at hq; have := hp.1; rcases hq with hq | hq <;> omega)
    exact ⟨cs2, by rw [he]; rfl, by rw [(gotR_ok he).1]; exact thcommand.mono hm2 (fun p hp => ⟨by have := hp.1.1; omega, hp.1.2.2.to H4 (by intro hq; simp [bl] at hq; have := hp.1.1; rcases hq with hq | hq <;> omega)⟩), (HA.all H4).pick [] (by decide)⟩
set_option maxRecDepth 100000 in
set_option maxHeartbeats 4000000 in
theorem cnote_w (gp : Nat) (g : Option Nat) (cap : Nat) (sp : List Value) (st : WS) (a : Addr) (x : thnote.X) (vs : List Value) (w0 : World) (H0 : Hp w0 w0 (bl (pw gp g cap sp st)) (pw gp g cap sp st)) (hP : POk 65536 g cap sp st) (hM : thnote.M w0 (fun b => b ∉ bl (pw gp g cap sp st)) x vs) (hC : Cl w0 (bl (pw gp g cap sp st)) a vs) :
    Does Try.prog 48 #[.pointer (some ⟨gp, 0, none⟩), .pointer (some a)] w0 (fun _ w' => PwOut gp (wAll (thnote.fl x) st) w0 (bl (pw gp g cap sp st)) w') := by
  refine does_of Try.func48 Try.ntmps48 rfl ?_
  change Run _ _ _ _ [.pointer (some ⟨gp, 0, none⟩), .pointer (some a), undef, undef, undef] _
  skip
  refine run_region ?_
  refine ops_val (ex_move rfl) ?_
  refine ops_call (ex_call gf49 rfl) (pnote_W gp g cap sp st a x vs w0 H0 hP hM hC (fun h => by cases h)) ?_
  rintro _ w1 hq
  refine ops_nil ?_
  change Run _ _ _ _ [_, _, _, _, _] _
  refine run_nil ?_
  refine fin_end0 rfl ?_
  exact hq
set_option maxRecDepth 100000 in
set_option maxHeartbeats 4000000 in
theorem cnote_r (gp gr : Nat) (gb : Option Nat) (cb : Nat) (sb : List Value) (b : List UInt8) (hcb : b.length ≤ cb) (hbl : b.length ≤ 65536) (go o i e : Nat) (U : TypeId) (cs : List Value) (w0 : World) (H0 : Hp w0 w0 (bl (pr gp gr gb cb sb b i e ++ [(some go, U, cs)])) (pr gp gr gb cb sb b i e ++ [(some go, U, cs)])) (hi : i ≤ b.length) (hat : At cs o thnote.zs) (hfit : o + thnote.sz ≤ cs.length) :
    Does Try.prog 51 #[.pointer (some ⟨gp, 0, none⟩), .pointer (some ⟨go, o, none⟩)] w0 (fun _ w' => RdOut (pr gp gr gb cb sb b) thnote go o U cs b i e w0.heap.size w0 (bl (pr gp gr gb cb sb b i e ++ [(some go, U, cs)])) w') := by
  refine does_of Try.func51 Try.ntmps51 rfl ?_
  change Run _ _ _ _ [.pointer (some ⟨gp, 0, none⟩), .pointer (some ⟨go, o, none⟩), undef, undef, undef] _
  skip
  refine run_region ?_
  refine ops_val (ex_move rfl) ?_
  refine ops_call (ex_call gf49 rfl) (pnote_R gp gr gb cb sb b hcb hbl go o i e U cs w0 H0 hi hat hfit) ?_
  rintro _ w1 hq
  refine ops_nil ?_
  change Run _ _ _ _ [_, _, _, _, _] _
  refine run_nil ?_
  refine fin_end0 rfl ?_
  exact hq
set_option maxRecDepth 100000 in
set_option maxHeartbeats 4000000 in
theorem note_wr (x : thnote.X) (cells : List Value) (w0 : World) (hM : thnote.M w0 (fun _ => True) x cells) :
    Does Try.prog 20 #[.agg cells.toArray] w0 (fun r w' => WrRes w0 w' r (wAll (thnote.fl x) W0)) := by
  refine does_of Try.func20 Try.ntmps20 rfl ?_
  change Run _ _ _ _ [.agg cells.toArray, undef, undef, undef, undef, undef, undef, undef] _
  have hlen : cells.length = 16 := thnote.len hM
  have H := Hp.refl w0
  refine run_seq ?_
  refine run_region ?_
  refine ops_box rfl rfl H ?_
  intro w1 g1 H1 hg1
  refine ops_val (ex_assign rfl) ?_
  refine ops_val (ex_assign rfl) ?_
  refine ops_nil ?_
  change Run _ _ _ _ [_, _, _, _, _, _, _, _] _
  refine run_seq ?_
  refine run_region ?_
  refine ops_val (ex_makeFunc rfl rfl) ?_
  refine ops_call_wr (ex_call gf38 rfl) (written_any (thnote.fl x) 48 [.pointer (some ⟨g1, 0, none⟩)] _ gf48 fun gp w2 HP => ?_) ?_
  · have hM1 := thnote.to hM H1 (fun _ _ => by simp)
    have hM2 := thnote.to hM1 HP (fun _ _ => by simp)
    exact cnote_w gp none 0 [] W0 ⟨g1, 0, none⟩ x cells w2 HP.here ⟨Nat.le_refl _, Nat.le_refl _, fun _ => rfl, Nat.zero_le _⟩ (thnote.mono hM2 fun _ h => h.2) ((H1.cl (i := 0) (S' := []) rfl (by simp)).to HP)
  intro w2 g cap sp q1 q2 q3 q4 Hd
  have H2 := H1.call0 Hd
  refine ops_val (ex_extract rfl rfl) ?_
  refine ops_val (ex_extract rfl rfl) ?_
  change Ops _ _ _ _ _ _ [_, _, _, _, _, _, _, _] _
  refine ops_val (ex_assign rfl) ?_
  refine ops_val (ex_assign rfl) ?_
  refine ops_nil ?_
  change Run _ _ _ _ [_, _, _, _, _, _, _, _] _
  refine run_ret ?_
  refine fin_ret2 rfl rfl rfl ?_
  exact ⟨g, cap, sp, rfl, q1, q2, q3, q4, H2.pick [1] (by decide)⟩
set_option maxRecDepth 100000 in
set_option maxHeartbeats 4000000 in
theorem note_rd (AA : Option Addr) (b : List UInt8) (c : Nat) (w0 : World) (hr : Rd w0 AA b.length 1 (u8s b)) (hb : b.length ≤ 211106232532900) :
    Does Try.prog 22 #[.slice AA b.length c] w0 (fun r w' => RdRes thnote b w0 w' r) := by
  refine does_of Try.func22 Try.ntmps22 rfl ?_
  change Run _ _ _ _ [.slice AA b.length c, undef, undef, undef, undef, undef, undef, undef, undef, undef, undef, undef, undef, undef] _
  have H := Hp.refl w0
  refine run_seq ?_
  refine run_region ?_
  refine ops_alloc ty50 H ?_
  intro w1 g1 H1 hg1
  refine ops_val (ex_assign rfl) ?_
  refine ops_nil ?_
  change Run _ _ _ _ [_, _, _, _, _, _, _, _, _, _, _, _, _, _] _
  refine run_seq ?_
  refine run_region ?_
  refine ops_alloc ty50 H1 ?_
  intro w2 g2 H2 hg2
  refine ops_nil ?_
  change Run _ _ _ _ [_, _, _, _, _, _, _, _, _, _, _, _, _, _] _
  refine run_seq ?_
  refine run_seq ?_
  refine run_region ?_
  refine ops_val (ex_move rfl) ?_
  refine ops_val (ex_makeFunc rfl rfl) ?_
  have HX := Hp.old (H2.at (i := 1) rfl)
  have hk := read_any thnote AA b c g2 50 [.int .i64 0, .int .i64 0, .int .i64 0, .int .i64 0, .int .i64 0, .int .i64 0, .int .i64 0, .slice none 0 0, .int .i64 0, .slice none 0 0, .int .i64 0, .string .empty, .int .i64 0, .int .i64 0, .int .i64 0, .int .i64 0] 51 [.pointer (some ⟨g2, 0, none⟩)] _ HX rfl (hr.to0 H2) (fun h0 a ha hq => by
    simp only [List.mem_singleton] at hq
    have hlt := H2.place (i := 1) rfl
    have := H2.size
    have hc := World.block_lt_of_cell? _ _ (hr.cells a ha 0 _ (u8s_get h0))
    rw [Addr.add_zero'] at hc
    rcases hlt with h1 | h1
    · simp at h1
    · omega) gf51 (fun gp gr gb cb sb w1 hcb hbl HP => cnote_r gp gr gb cb sb b hcb hbl g2 0 0 0 50 _ w1 HP.here (Nat.zero_le _) (At.self _) (Nat.le_refl _))
  refine ops_call (ex_call gf43 rfl) hk ?_
  rintro _ w3 ⟨rfl, cs2, hl, Hd, hM⟩
  have hsz1 := H2.size
  have hg1 : g1 < w2.heap.size := H2.lt (i := 0) rfl
  have hg2 : g2 < w2.heap.size := H2.lt (i := 1) rfl
  have H3 := (H2.call1 (i := 1) rfl Hd).pick [0, 2] (by decide)
  refine ops_val (ex_assign rfl) ?_
  refine ops_nil ?_
  change Run _ _ _ _ [_, _, _, _, _, _, _, _, _, _, _, _, _, _] _
  refine run_seq ?_
  refine run_region ?_
  refine ops_val (ex_move rfl) ?_
  refine ops_test (ex_neq rfl rfl) (fun hp10 => ?_) (fun hp10 => ?_)
  · have he : errR thnote b ≠ 0 := by omega
    refine ops_nil ?_
    change Run _ _ _ _ [_, _, _, _, _, _, _, _, _, _, _, _, _, _] _
    refine run_cond_true rfl ?_
    refine run_seq ?_
    refine run_region ?_
    refine ops_val (ex_build ty50 pl50 rfl rfl) ?_
    refine ops_val (ex_move rfl) ?_
    refine ops_store ty50 H3 0 rfl rfl rfl rfl rfl (by first | decide | simp) rfl ?_
    intro w4 H4
    refine ops_val (ex_assign rfl) ?_
    refine ops_nil ?_
    change Run _ _ _ _ [_, _, _, _, _, _, _, _, _, _, _, _, _, _] _
    refine run_ret ?_
    refine fin_cell_tmp rfl ty50 rfl rfl rfl (H4.cells (i := 0) rfl) ?_
    exact ⟨_, rfl, by rw [gotR_bad he]; exact thnote.zM _ _, H4.pick [] (by decide)⟩
  · have he : errR thnote b = 0 := by omega
    have hm := hM he
    have HA := H3
    replace H3 := HA.here
    refine ops_nil ?_
    change Run _ _ _ _ [_, _, _, _, _, _, _, _, _, _, _, _, _, _] _
    refine run_cond_false rfl ?_
    refine run_skip ?_
    refine run_seq ?_
    refine run_region ?_
    refine ops_val (ex_loadN ty50 rfl (vs := cs2) hl (H3.cells (i := 1) rfl)) ?_
    refine ops_store ty50 H3 0 rfl rfl rfl rfl hl (by rw [hl]; decide) (thnote.ones hm) ?_
    intro w4 H4
    have hpu : putAt [.int .i64 0, .int .i64 0, .int .i64 0, .int .i64 0, .int .i64 0, .int .i64 0, .int .i64 0, .slice none 0 0, .int .i64 0, .slice none 0 0, .int .i64 0, .string .empty, .int .i64 0, .int .i64 0, .int .i64 0, .int .i64 0] 0 cs2 = cs2 := putAt_all hl
    rw [hpu] at H4
    refine ops_val (ex_assign rfl) ?_
    refine ops_nil ?_
    change Run _ _ _ _ [_, _, _, _, _, _, _, _, _, _, _, _, _, _] _
    refine run_ret ?_
    refine fin_cell_tmp rfl ty50 rfl rfl hl (H4.cells (i := 0) rfl) ?_
    have hm2 := thnote.to hm H4 (fun p hp hq => by simp [bl] at hq; have := hp.1; rcases hq with hq | hq <;> omega)
    exact ⟨cs2, by rw [he]; rfl, by rw [(gotR_ok he).1]; exact thnote.mono hm2 (fun p hp => ⟨by have := hp.1.1; omega, hp.1.2.2.to H4 (by intro hq; simp [bl] at hq; have := hp.1.1; rcases hq with hq | hq <;> omega)⟩), (HA.all H4).pick [] (by decide)⟩
end Go.Proofs.Ytoeobicpdeklaaa
