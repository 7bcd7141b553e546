/- Walks of layer 2, printed by wip/gen/codec.py. -/
import Derived.Test.YtoeobicpdeklaaaWireG
namespace Go.Proofs.Ytoeobicpdeklaaa
open Go Go.RowKit
set_option linter.unusedVariables false
attribute [local irreducible] Still Ops Does Cd
set_option maxRecDepth 100000 in
set_option maxHeartbeats 4000000 in
theorem done_any (gp : Nat) (g : Option Nat) (cap : Nat) (sp : List Value) (st : WS) (go : Nat) (U : TypeId) (cs : List Value) (w0 : World) (H0 : Hp w0 w0 (bl (vwo gp g cap sp st go U cs)) (vwo gp g cap sp st go U cs)) (m : Nat) (hP : POk m g cap sp st) (a : WS) (hL : Alike a st) :
    Does Try.prog 42 #[.pointer (some ⟨gp, 0, none⟩)] w0 (fun r w' => ∃ g2 cap2 sp2, r = .tuple #[.slice (hd g2) (outOf a).length cap2, .int .i64 (errOf a : Int)] ∧ (outOf a).length ≤ cap2 ∧ cap2 * 1 ≤ (u8s (outOf a) ++ sp2).length ∧ (g2 = none → cap2 = 0) ∧ (outOf a).length ≤ 65536 ∧ Hp w0 w' (bl (vwo gp g cap sp st go U cs)) [(g2, 5, u8s (outOf a) ++ sp2)]) := by
  refine does_of Try.func42 Try.ntmps42 rfl ?_
  change Run _ _ _ _ [.pointer (some ⟨gp, 0, none⟩), undef, undef, undef, undef, undef, undef, undef, undef, undef, undef, undef, undef, undef, undef, undef, undef, undef, undef, undef] _
  have H := H0
  obtain ⟨sout, slong⟩ := st
  obtain ⟨q1, q2⟩ := alike_out hL
  refine run_seq ?_
  refine run_region ?_
  refine ops_val (ex_assign rfl) ?_
  refine ops_val (ex_assign rfl) ?_
  refine ops_nil ?_
  change Run _ _ _ _ [_, _, _, _, _, _, _, _, _, _, _, _, _, _, _, _, _, _, _, _] _
  refine run_seq ?_
  refine run_seq ?_
  cases slong
  · skip
    refine run_region ?_
    refine ops_val (ex_move rfl) ?_
    refine ops_val (ex_nilCheck rfl) ?_
    refine ops_val (ex_fieldAddr fl102_2 rfl) ?_
    refine ops_val (ex_load ty4 rfl (H.cell (i := 0) rfl rfl)) ?_
    change Ops _ _ _ _ _ _ [_, _, _, _, _, _, _, _, _, _, _, _, _, _, _, _, _, _, _, _] _
    refine ops_val (ex_move rfl) ?_
    refine ops_yes rfl ?_
    refine ops_val (ex_move rfl) ?_
    change Ops _ _ _ _ _ _ [_, _, _, _, _, _, _, _, _, _, _, _, _, _, _, _, _, _, _, _] _
    refine ops_yes rfl ?_
    refine ops_val (ex_nilCheck rfl) ?_
    refine ops_yes rfl ?_
    refine ops_val (ex_fieldAddr fl102_0 rfl) ?_
    change Ops _ _ _ _ _ _ [_, _, _, _, _, _, _, _, _, _, _, _, _, _, _, _, _, _, _, _] _
    refine ops_yes rfl ?_
    refine ops_val (ex_load ty26 rfl (H.cell (i := 0) rfl rfl)) ?_
    refine ops_yes rfl ?_
    refine ops_val (ex_len_slice Try.underlying26 rfl) ?_
    change Ops _ _ _ _ _ _ [_, _, _, _, _, _, _, _, _, _, _, _, _, _, _, _, _, _, _, _] _
    refine ops_yes rfl ?_
    refine ops_test (ex_gtr rfl rfl) (fun hp14 => ?_) (fun hp14 => ?_)
    · have hl := q1 (.inr (by dsimp only at hp14 ⊢; omega))
      refine ops_val (ex_pick_f rfl rfl) ?_
      refine ops_nil ?_
      change Run _ _ _ _ [_, _, _, _, _, _, _, _, _, _, _, _, _, _, _, _, _, _, _, _] _
      refine run_cond_true rfl ?_
      refine run_seq ?_
      refine run_region ?_
      refine ops_val (ex_assign rfl) ?_
      refine ops_val (ex_assign rfl) ?_
      refine ops_nil ?_
      change Run _ _ _ _ [_, _, _, _, _, _, _, _, _, _, _, _, _, _, _, _, _, _, _, _] _
      refine run_ret ?_
      refine fin_ret2 rfl rfl rfl ?_
      obtain ⟨r1, r2⟩ := errOf_long hl
      exact ⟨none, 0, [], by rw [r1, r2]; rfl, by rw [r1]; exact Nat.le_refl 0, Nat.zero_le _, fun _ => rfl, by rw [r1]; decide, by rw [r1]; exact Hp.nil (H.pick [] (by decide)) 5⟩
    · obtain ⟨hl, ho⟩ := q2 (by rintro (h | h); cases h; dsimp only at h hp14; omega)
      refine ops_val (ex_pick_f rfl rfl) ?_
      refine ops_nil ?_
      change Run _ _ _ _ [_, _, _, _, _, _, _, _, _, _, _, _, _, _, _, _, _, _, _, _] _
      refine run_cond_false rfl ?_
      refine run_skip ?_
      refine run_seq ?_
      refine run_region ?_
      refine ops_val (ex_move rfl) ?_
      refine ops_val (ex_nilCheck rfl) ?_
      refine ops_val (ex_fieldAddr fl102_0 rfl) ?_
      refine ops_val (ex_load ty26 rfl (H.cell (i := 0) rfl rfl)) ?_
      change Ops _ _ _ _ _ _ [_, _, _, _, _, _, _, _, _, _, _, _, _, _, _, _, _, _, _, _] _
      refine ops_val (ex_assign rfl) ?_
      refine ops_val (ex_assign rfl) ?_
      refine ops_nil ?_
      change Run _ _ _ _ [_, _, _, _, _, _, _, _, _, _, _, _, _, _, _, _, _, _, _, _] _
      refine run_ret ?_
      refine fin_ret2 rfl rfl rfl ?_
      obtain ⟨r1, r2⟩ := errOf_ok hl
      simp only at ho
      exact ⟨g, cap, sp, by rw [r1, r2, ho]; rfl, by rw [r1, ho]; exact hP.le, by rw [r1, ho]; exact hP.room, hP.nil, by rw [r1, ho]; dsimp only at hp14; omega, by rw [r1, ho]; exact H.pick [1] (by decide)⟩
  · skip
    refine run_region ?_
    refine ops_val (ex_move rfl) ?_
    refine ops_val (ex_nilCheck rfl) ?_
    refine ops_val (ex_fieldAddr fl102_2 rfl) ?_
    refine ops_val (ex_load ty4 rfl (H.cell (i := 0) rfl rfl)) ?_
    change Ops _ _ _ _ _ _ [_, _, _, _, _, _, _, _, _, _, _, _, _, _, _, _, _, _, _, _] _
    refine ops_val (ex_move rfl) ?_
    refine ops_no rfl ?_
    change Ops _ _ _ _ _ _ [_, _, _, _, _, _, _, _, _, _, _, _, _, _, _, _, _, _, _, _] _
    refine ops_no rfl ?_
    refine ops_no rfl ?_
    change Ops _ _ _ _ _ _ [_, _, _, _, _, _, _, _, _, _, _, _, _, _, _, _, _, _, _, _] _
    refine ops_no rfl ?_
    refine ops_no rfl ?_
    change Ops _ _ _ _ _ _ [_, _, _, _, _, _, _, _, _, _, _, _, _, _, _, _, _, _, _, _] _
    refine ops_no rfl ?_
    refine ops_val (ex_pick_t rfl rfl) ?_
    refine ops_nil ?_
    change Run _ _ _ _ [_, _, _, _, _, _, _, _, _, _, _, _, _, _, _, _, _, _, _, _] _
    refine run_cond_true rfl ?_
    refine run_seq ?_
    refine run_region ?_
    refine ops_val (ex_assign rfl) ?_
    refine ops_val (ex_assign rfl) ?_
    refine ops_nil ?_
    change Run _ _ _ _ [_, _, _, _, _, _, _, _, _, _, _, _, _, _, _, _, _, _, _, _] _
    refine run_ret ?_
    refine fin_ret2 rfl rfl rfl ?_
    have hl := q1 (.inl rfl)
    obtain ⟨r1, r2⟩ := errOf_long hl
    exact ⟨none, 0, [], by rw [r1, r2]; rfl, by rw [r1]; exact Nat.le_refl 0, Nat.zero_le _, fun _ => rfl, by rw [r1]; decide, by rw [r1]; exact Hp.nil (H.pick [] (by decide)) 5⟩
set_option maxRecDepth 100000 in
set_option maxHeartbeats 4000000 in
theorem ccommand_w (gp : Nat) (g : Option Nat) (cap : Nat) (sp : List Value) (st : WS) (a : Addr) (x : thcommand.X) (vs : List Value) (w0 : World) (H0 : Hp w0 w0 (bl (pw gp g cap sp st)) (pw gp g cap sp st)) (hP : POk 65536 g cap sp st) (hM : thcommand.M w0 (fun b => b ∉ bl (pw gp g cap sp st)) x vs) (hC : Cl w0 (bl (pw gp g cap sp st)) a vs) :
    Does Try.prog 39 #[.pointer (some ⟨gp, 0, none⟩), .pointer (some a)] w0 (fun _ w' => PwOut gp (wAll (thcommand.fl x) st) w0 (bl (pw gp g cap sp st)) w') := by
  refine does_of Try.func39 Try.ntmps39 rfl ?_
  change Run _ _ _ _ [.pointer (some ⟨gp, 0, none⟩), .pointer (some a), undef, undef, undef] _
  skip
  refine run_region ?_
  refine ops_val (ex_move rfl) ?_
  refine ops_call (ex_call gf40 rfl) (pcommand_W gp g cap sp st a x vs w0 H0 hP hM hC (fun h => by cases h)) ?_
  rintro _ w1 hq
  refine ops_nil ?_
  change Run _ _ _ _ [_, _, _, _, _] _
  refine run_nil ?_
  refine fin_end0 rfl ?_
  exact hq
set_option maxRecDepth 100000 in
set_option maxHeartbeats 4000000 in
theorem ccommand_r (gp gr : Nat) (gb : Option Nat) (cb : Nat) (sb : List Value) (b : List UInt8) (hcb : b.length ≤ cb) (hbl : b.length ≤ 65536) (go o i e : Nat) (U : TypeId) (cs : List Value) (w0 : World) (H0 : Hp w0 w0 (bl (pr gp gr gb cb sb b i e ++ [(some go, U, cs)])) (pr gp gr gb cb sb b i e ++ [(some go, U, cs)])) (hi : i ≤ b.length) (hat : At cs o thcommand.zs) (hfit : o + thcommand.sz ≤ cs.length) :
    Does Try.prog 44 #[.pointer (some ⟨gp, 0, none⟩), .pointer (some ⟨go, o, none⟩)] w0 (fun _ w' => RdOut (pr gp gr gb cb sb b) thcommand go o U cs b i e w0.heap.size w0 (bl (pr gp gr gb cb sb b i e ++ [(some go, U, cs)])) w') := by
  refine does_of Try.func44 Try.ntmps44 rfl ?_
  change Run _ _ _ _ [.pointer (some ⟨gp, 0, none⟩), .pointer (some ⟨go, o, none⟩), undef, undef, undef] _
  skip
  refine run_region ?_
  refine ops_val (ex_move rfl) ?_
  refine ops_call (ex_call gf40 rfl) (pcommand_R gp gr gb cb sb b hcb hbl go o i e U cs w0 H0 hi hat hfit) ?_
  rintro _ w1 hq
  refine ops_nil ?_
  change Run _ _ _ _ [_, _, _, _, _] _
  refine run_nil ?_
  refine fin_end0 rfl ?_
  exact hq
set_option maxRecDepth 100000 in
set_option maxHeartbeats 4000000 in
theorem command_wr (x : thcommand.X) (cells : List Value) (w0 : World) (hM : thcommand.M w0 (fun _ => True) x cells) :
    Does Try.prog 10 #[.agg cells.toArray] w0 (fun r w' => WrRes w0 w' r (wAll (thcommand.fl x) W0)) := by
  refine does_of Try.func10 Try.ntmps10 rfl ?_
  change Run _ _ _ _ [.agg cells.toArray, undef, undef, undef, undef, undef, undef, undef] _
  have hlen : cells.length = 25 := thcommand.len hM
  have H := Hp.refl w0
  refine run_seq ?_
  refine run_region ?_
  refine ops_box rfl rfl H ?_
  intro w1 g1 H1 hg1
  refine ops_val (ex_assign rfl) ?_
  refine ops_val (ex_assign rfl) ?_
  refine ops_nil ?_
  change Run _ _ _ _ [_, _, _, _, _, _, _, _] _
  refine run_seq ?_
  refine run_region ?_
  refine ops_val (ex_makeFunc rfl rfl) ?_
  refine ops_call_wr (ex_call gf38 rfl) (written_any (thcommand.fl x) 39 [.pointer (some ⟨g1, 0, none⟩)] _ gf39 fun gp w2 HP => ?_) ?_
  · have hM1 := thcommand.to hM H1 (fun _ _ => by simp)
    have hM2 := thcommand.to hM1 HP (fun _ _ => by simp)
    exact ccommand_w gp none 0 [] W0 ⟨g1, 0, none⟩ x cells w2 HP.here ⟨Nat.le_refl _, Nat.le_refl _, fun _ => rfl, Nat.zero_le _⟩ (thcommand.mono hM2 fun _ h => h.2) ((H1.cl (i := 0) (S' := []) rfl (by simp)).to HP)
  intro w2 g cap sp q1 q2 q3 q4 Hd
  have H2 := H1.call0 Hd
  refine ops_val (ex_extract rfl rfl) ?_
  refine ops_val (ex_extract rfl rfl) ?_
  change Ops _ _ _ _ _ _ [_, _, _, _, _, _, _, _] _
  refine ops_val (ex_assign rfl) ?_
  refine ops_val (ex_assign rfl) ?_
  refine ops_nil ?_
  change Run _ _ _ _ [_, _, _, _, _, _, _, _] _
  refine run_ret ?_
  refine fin_ret2 rfl rfl rfl ?_
  exact ⟨g, cap, sp, rfl, q1, q2, q3, q4, H2.pick [1] (by decide)⟩
set_option maxRecDepth 100000 in
set_option maxHeartbeats 4000000 in
theorem command_vwr (x : thcommand.X) (cells : List Value) (w0 : World) (hM : thcommand.M w0 (fun _ => True) x cells) :
    Does Try.prog 12 #[.agg cells.toArray] w0 (fun r w' => WrRes w0 w' r (wAll (thcommand.fl x) W0)) := by
  refine does_of Try.func12 Try.ntmps12 rfl ?_
  change Run _ _ _ _ [.agg cells.toArray, undef, undef, undef, undef, undef, undef, undef, undef, undef, undef, undef, undef] _
  have hlen : cells.length = 25 := thcommand.len hM
  have H := Hp.refl w0
  refine run_seq ?_
  refine run_region ?_
  refine ops_box rfl rfl H ?_
  intro w1 g1 H1 hg1
  refine ops_val (ex_assign rfl) ?_
  refine ops_val (ex_assign rfl) ?_
  refine ops_nil ?_
  change Run _ _ _ _ [_, _, _, _, _, _, _, _, _, _, _, _, _] _
  refine run_seq ?_
  refine run_region ?_
  refine ops_val (ex_build ty102 pl102 rfl rfl) ?_
  refine ops_box rfl rfl H1 ?_
  intro w2 gk H2 hgk
  refine ops_val (ex_assign rfl) ?_
  refine ops_nil ?_
  change Run _ _ _ _ [_, _, _, _, _, _, _, _, _, _, _, _, _] _
  refine run_seq ?_
  refine run_region ?_
  refine ops_val (ex_move rfl) ?_
  have hM1 := thcommand.to hM H2 (fun _ _ => by simp)
  have HP : Hp w0 w2 [] (vwo gk none 0 [] W0 g1 28 cells) := (H2.nil 5).pick [1, 2, 0] (by decide)
  have hM2 := thcommand.to hM HP (fun _ _ => by simp)
  refine ops_call (ex_call gf41 rfl) (vcommand_W gk g1 0 none 0 [] W0 28 cells x cells _ 0 W0 HP.here (by decide) ⟨Nat.le_refl _, Nat.le_refl _, fun _ => rfl, Nat.le_refl _⟩ (.inr ⟨rfl, rfl, rfl, Nat.zero_le _⟩) (thcommand.mono hM2 fun _ h => h.2) (At.self _)) ?_
  rintro _ w3 ⟨st, g, cap, sp, hL, hPk, Hd⟩
  have H3 := HP.all Hd
  refine ops_nil ?_
  change Run _ _ _ _ [_, _, _, _, _, _, _, _, _, _, _, _, _] _
  refine run_seq ?_
  refine run_region ?_
  refine ops_val (ex_move rfl) ?_
  refine ops_call (ex_call gf42 rfl) (done_any gk g cap sp st g1 28 cells _ H3.here 1000000000 (hPk.mono (by decide)) _ hL) ?_
  rintro _ w4 ⟨g2, cap2, sp2, rfl, q1, q2, q3, q4, Hd⟩
  have H4 := H3.all Hd
  refine ops_val (ex_extract rfl rfl) ?_
  refine ops_val (ex_extract rfl rfl) ?_
  change Ops _ _ _ _ _ _ [_, _, _, _, _, _, _, _, _, _, _, _, _] _
  refine ops_val (ex_assign rfl) ?_
  refine ops_val (ex_assign rfl) ?_
  refine ops_nil ?_
  change Run _ _ _ _ [_, _, _, _, _, _, _, _, _, _, _, _, _] _
  refine run_ret ?_
  refine fin_ret2 rfl rfl rfl ?_
  exact ⟨g2, cap2, sp2, rfl, q1, q2, q3, q4, H4⟩
set_option maxRecDepth 100000 in
set_option maxHeartbeats 4000000 in
theorem cnote_w (gp : Nat) (g : Option Nat) (cap : Nat) (sp : List Value) (st : WS) (a : Addr) (x : thnote.X) (vs : List Value) (w0 : World) (H0 : Hp w0 w0 (bl (pw gp g cap sp st)) (pw gp g cap sp st)) (hP : POk 65536 g cap sp st) (hM : thnote.M w0 (fun b => b ∉ bl (pw gp g cap sp st)) x vs) (hC : Cl w0 (bl (pw gp g cap sp st)) a vs) :
    Does Try.prog 48 #[.pointer (some ⟨gp, 0, none⟩), .pointer (some a)] w0 (fun _ w' => PwOut gp (wAll (thnote.fl x) st) w0 (bl (pw gp g cap sp st)) w') := by
  refine does_of Try.func48 Try.ntmps48 rfl ?_
  change Run _ _ _ _ [.pointer (some ⟨gp, 0, none⟩), .pointer (some a), undef, undef, undef] _
  skip
  refine run_region ?_
  refine ops_val (ex_move rfl) ?_
  refine ops_call (ex_call gf49 rfl) (pnote_W gp g cap sp st a x vs w0 H0 hP hM hC (fun h => by cases h)) ?_
  rintro _ w1 hq
  refine ops_nil ?_
  change Run _ _ _ _ [_, _, _, _, _] _
  refine run_nil ?_
  refine fin_end0 rfl ?_
  exact hq
set_option maxRecDepth 100000 in
set_option maxHeartbeats 4000000 in
theorem cnote_r (gp gr : Nat) (gb : Option Nat) (cb : Nat) (sb : List Value) (b : List UInt8) (hcb : b.length ≤ cb) (hbl : b.length ≤ 65536) (go o i e : Nat) (U : TypeId) (cs : List Value) (w0 : World) (H0 : Hp w0 w0 (bl (pr gp gr gb cb sb b i e ++ [(some go, U, cs)])) (pr gp gr gb cb sb b i e ++ [(some go, U, cs)])) (hi : i ≤ b.length) (hat : At cs o thnote.zs) (hfit : o + thnote.sz ≤ cs.length) :
    Does Try.prog 51 #[.pointer (some ⟨gp, 0, none⟩), .pointer (some ⟨go, o, none⟩)] w0 (fun _ w' => RdOut (pr gp gr gb cb sb b) thnote go o U cs b i e w0.heap.size w0 (bl (pr gp gr gb cb sb b i e ++ [(some go, U, cs)])) w') := by
  refine does_of Try.func51 Try.ntmps51 rfl ?_
  change Run _ _ _ _ [.pointer (some ⟨gp, 0, none⟩), .pointer (some ⟨go, o, none⟩), undef, undef, undef] _
  skip
  refine run_region ?_
  refine ops_val (ex_move rfl) ?_
  refine ops_call (ex_call gf49 rfl) (pnote_R gp gr gb cb sb b hcb hbl go o i e U cs w0 H0 hi hat hfit) ?_
  rintro _ w1 hq
  refine ops_nil ?_
  change Run _ _ _ _ [_, _, _, _, _] _
  refine run_nil ?_
  refine fin_end0 rfl ?_
  exact hq
set_option maxRecDepth 100000 in
set_option maxHeartbeats 4000000 in
theorem note_wr (x : thnote.X) (cells : List Value) (w0 : World) (hM : thnote.M w0 (fun _ => True) x cells) :
    Does Try.prog 20 #[.agg cells.toArray] w0 (fun r w' => WrRes w0 w' r (wAll (thnote.fl x) W0)) := by
  refine does_of Try.func20 Try.ntmps20 rfl ?_
  change Run _ _ _ _ [.agg cells.toArray, undef, undef, undef, undef, undef, undef, undef] _
  have hlen : cells.length = 16 := thnote.len hM
  have H := Hp.refl w0
  refine run_seq ?_
  refine run_region ?_
  refine ops_box rfl rfl H ?_
  intro w1 g1 H1 hg1
  refine ops_val (ex_assign rfl) ?_
  refine ops_val (ex_assign rfl) ?_
  refine ops_nil ?_
  change Run _ _ _ _ [_, _, _, _, _, _, _, _] _
  refine run_seq ?_
  refine run_region ?_
  refine ops_val (ex_makeFunc rfl rfl) ?_
  refine ops_call_wr (ex_call gf38 rfl) (written_any (thnote.fl x) 48 [.pointer (some ⟨g1, 0, none⟩)] _ gf48 fun gp w2 HP => ?_) ?_
  · have hM1 := thnote.to hM H1 (fun _ _ => by simp)
    have hM2 := thnote.to hM1 HP (fun _ _ => by simp)
    exact cnote_w gp none 0 [] W0 ⟨g1, 0, none⟩ x cells w2 HP.here ⟨Nat.le_refl _, Nat.le_refl _, fun _ => rfl, Nat.zero_le _⟩ (thnote.mono hM2 fun _ h => h.2) ((H1.cl (i := 0) (S' := []) rfl (by simp)).to HP)
  intro w2 g cap sp q1 q2 q3 q4 Hd
  have H2 := H1.call0 Hd
  refine ops_val (ex_extract rfl rfl) ?_
  refine ops_val (ex_extract rfl rfl) ?_
  change Ops _ _ _ _ _ _ [_, _, _, _, _, _, _, _] _
  refine ops_val (ex_assign rfl) ?_
  refine ops_val (ex_assign rfl) ?_
  refine ops_nil ?_
  change Run _ _ _ _ [_, _, _, _, _, _, _, _] _
  refine run_ret ?_
  refine fin_ret2 rfl rfl rfl ?_
  exact ⟨g, cap, sp, rfl, q1, q2, q3, q4, H2.pick [1] (by decide)⟩
set_option maxRecDepth 100000 in
set_option maxHeartbeats 4000000 in
theorem note_vwr (x : thnote.X) (cells : List Value) (w0 : World) (hM : thnote.M w0 (fun _ => True) x cells) :
    Does Try.prog 21 #[.agg cells.toArray] w0 (fun r w' => WrRes w0 w' r (wAll (thnote.fl x) W0)) := by
  refine does_of Try.func21 Try.ntmps21 rfl ?_
  change Run _ _ _ _ [.agg cells.toArray, undef, undef, undef, undef, undef, undef, undef, undef, undef, undef, undef, undef] _
  have hlen : cells.length = 16 := thnote.len hM
  have H := Hp.refl w0
  refine run_seq ?_
  refine run_region ?_
  refine ops_box rfl rfl H ?_
  intro w1 g1 H1 hg1
  refine ops_val (ex_assign rfl) ?_
  refine ops_val (ex_assign rfl) ?_
  refine ops_nil ?_
  change Run _ _ _ _ [_, _, _, _, _, _, _, _, _, _, _, _, _] _
  refine run_seq ?_
  refine run_region ?_
  refine ops_val (ex_build ty102 pl102 rfl rfl) ?_
  refine ops_box rfl rfl H1 ?_
  intro w2 gk H2 hgk
  refine ops_val (ex_assign rfl) ?_
  refine ops_nil ?_
  change Run _ _ _ _ [_, _, _, _, _, _, _, _, _, _, _, _, _] _
  refine run_seq ?_
  refine run_region ?_
  refine ops_val (ex_move rfl) ?_
  have hM1 := thnote.to hM H2 (fun _ _ => by simp)
  have HP : Hp w0 w2 [] (vwo gk none 0 [] W0 g1 50 cells) := (H2.nil 5).pick [1, 2, 0] (by decide)
  have hM2 := thnote.to hM HP (fun _ _ => by simp)
  refine ops_call (ex_call gf50 rfl) (vnote_W gk g1 0 none 0 [] W0 50 cells x cells _ 0 W0 HP.here (by decide) ⟨Nat.le_refl _, Nat.le_refl _, fun _ => rfl, Nat.le_refl _⟩ (.inr ⟨rfl, rfl, rfl, Nat.zero_le _⟩) (thnote.mono hM2 fun _ h => h.2) (At.self _)) ?_
  rintro _ w3 ⟨st, g, cap, sp, hL, hPk, Hd⟩
  have H3 := HP.all Hd
  refine ops_nil ?_
  change Run _ _ _ _ [_, _, _, _, _, _, _, _, _, _, _, _, _] _
  refine run_seq ?_
  refine run_region ?_
  refine ops_val (ex_move rfl) ?_
  refine ops_call (ex_call gf42 rfl) (done_any gk g cap sp st g1 50 cells _ H3.here 1000000000 (hPk.mono (by decide)) _ hL) ?_
  rintro _ w4 ⟨g2, cap2, sp2, rfl, q1, q2, q3, q4, Hd⟩
  have H4 := H3.all Hd
  refine ops_val (ex_extract rfl rfl) ?_
  refine ops_val (ex_extract rfl rfl) ?_
  change Ops _ _ _ _ _ _ [_, _, _, _, _, _, _, _, _, _, _, _, _] _
  refine ops_val (ex_assign rfl) ?_
  refine ops_val (ex_assign rfl) ?_
  refine ops_nil ?_
  change Run _ _ _ _ [_, _, _, _, _, _, _, _, _, _, _, _, _] _
  refine run_ret ?_
  refine fin_ret2 rfl rfl rfl ?_
  exact ⟨g2, cap2, sp2, rfl, q1, q2, q3, q4, H4⟩
end Go.Proofs.Ytoeobicpdeklaaa
