/- Walks of layer 2, printed by wip/gen/codec.py. -/
import Derived.Test.YtoeobicpdeklaaaWireG
import Derived.Test.YtoeobicpdeklaaaWireF
namespace Go.Proofs.Ytoeobicpdeklaaa
open Go Go.RowKit
set_option linter.unusedVariables false
attribute [local irreducible] Still Ops Does Cd
set_option maxRecDepth 100000 in
set_option maxHeartbeats 4000000 in
theorem done_any (gp : Nat) (g : Option Nat) (cap : Nat) (sp : List Value) (st : WS) (go : Nat) (U : TypeId) (cs : List Value) (w0 : World) (H0 : Hp w0 w0 (bl (vwo gp g cap sp st go U cs)) (vwo gp g cap sp st go U cs)) (m : Nat) (hP : POk m g cap sp st) (a : WS) (hL : Alike a st) :
    Does Try.prog 42 #[.pointer (some ⟨gp, 0, none⟩)] w0 (fun r w' => ∃ g2 cap2 sp2, r = .tuple #[.slice (hd g2) (outOf a).length cap2, .int .i64 (errOf a : Int)] ∧ (outOf a).length ≤ cap2 ∧ cap2 * 1 ≤ (u8s (outOf a) ++ sp2).length ∧ (g2 = none → cap2 = 0) ∧ (outOf a).length ≤ 65536 ∧ Hp w0 w' (bl (vwo gp g cap sp st go U cs)) [(g2, 5, u8s (outOf a) ++ sp2)]) := by
  refine does_of Try.func42 Try.ntmps42 rfl ?_
  change Run _ _ _ _ [.pointer (some ⟨gp, 0, none⟩), undef, undef, undef, undef, undef, undef, undef, undef, undef, undef, undef, undef, undef, undef, undef, undef, undef, undef, undef] _
  have H := H0
  obtain ⟨sout, slong⟩ := st
  obtain ⟨q1, q2⟩ := alike_out hL
  refine run_seq ?_
  refine run_region ?_
  refine ops_val (ex_assign rfl) ?_
  refine ops_val (ex_assign rfl) ?_
  refine ops_nil ?_
  change Run _ _ _ _ [_, _, _, _, _, _, _, _, _, _, _, _, _, _, _, _, _, _, _, _] _
  refine run_seq ?_
  refine run_seq ?_
  cases slong
  · skip
    refine run_region ?_
    refine ops_val (ex_move rfl) ?_
    refine ops_val (ex_nilCheck rfl) ?_
    refine ops_val (ex_fieldAddr fl102_2 rfl) ?_
    refine ops_val (ex_load ty4 rfl (H.cell (i := 0) rfl rfl)) ?_
    change Ops _ _ _ _ _ _ [_, _, _, _, _, _, _, _, _, _, _, _, _, _, _, _, _, _, _, _] _
    refine ops_val (ex_move rfl) ?_
    refine ops_yes rfl ?_
    refine ops_val (ex_move rfl) ?_
    change Ops _ _ _ _ _ _ [_, _, _, _, _, _, _, _, _, _, _, _, _, _, _, _, _, _, _, _] _
    refine ops_yes rfl ?_
    refine ops_val (ex_nilCheck rfl) ?_
    refine ops_yes rfl ?_
    refine ops_val (ex_fieldAddr fl102_0 rfl) ?_
    change Ops _ _ _ _ _ _ [_, _, _, _, _, _, _, _, _, _, _, _, _, _, _, _, _, _, _, _] _
    refine ops_yes rfl ?_
    refine ops_val (ex_load ty26 rfl (H.cell (i := 0) rfl rfl)) ?_
    refine ops_yes rfl ?_
    refine ops_val (ex_len_slice Try.underlying26 rfl) ?_
    change Ops _ _ _ _ _ _ [_, _, _, _, _, _, _, _, _, _, _, _, _, _, _, _, _, _, _, _] _
    refine ops_yes rfl ?_
    refine ops_test (ex_gtr rfl rfl) (fun hp14 => ?_) (fun hp14 => ?_)
    · have hl := q1 (.inr (by dsimp only at hp14 ⊢; omega))
      refine ops_val (ex_pick_f rfl rfl) ?_
      refine ops_nil ?_
      change Run _ _ _ _ [_, _, _, _, _, _, _, _, _, _, _, _, _, _, _, _, _, _, _, _] _
      refine run_cond_true rfl ?_
      refine run_seq ?_
      refine run_region ?_
      refine ops_val (ex_assign rfl) ?_
      refine ops_val (ex_assign rfl) ?_
      refine ops_nil ?_
      change Run _ _ _ _ [_, _, _, _, _, _, _, _, _, _, _, _, _, _, _, _, _, _, _, _] _
      refine run_ret ?_
      refine fin_ret2 rfl rfl rfl ?_
      obtain ⟨r1, r2⟩ := errOf_long hl
      exact ⟨none, 0, [], by rw [r1, r2]; rfl, by rw [r1]; exact Nat.le_refl 0, Nat.zero_le _, fun _ => rfl, by rw [r1]; decide, by rw [r1]; exact Hp.nil (H.pick [] (by decide)) 5⟩
    · obtain ⟨hl, ho⟩ := q2 (by rintro (h | h); cases h; dsimp only at h hp14; omega)
      refine ops_val (ex_pick_f rfl rfl) ?_
      refine ops_nil ?_
      change Run _ _ _ _ [_, _, _, _, _, _, _, _, _, _, _, _, _, _, _, _, _, _, _, _] _
      refine run_cond_false rfl ?_
      refine run_skip ?_
      refine run_seq ?_
      refine run_region ?_
      refine ops_val (ex_move rfl) ?_
      refine ops_val (ex_nilCheck rfl) ?_
      refine ops_val (ex_fieldAddr fl102_0 rfl) ?_
      refine ops_val (ex_load ty26 rfl (H.cell (i := 0) rfl rfl)) ?_
      change Ops _ _ _ _ _ _ [_, _, _, _, _, _, _, _, _, _, _, _, _, _, _, _, _, _, _, _] _
      refine ops_val (ex_assign rfl) ?_
      refine ops_val (ex_assign rfl) ?_
      refine ops_nil ?_
      change Run _ _ _ _ [_, _, _, _, _, _, _, _, _, _, _, _, _, _, _, _, _, _, _, _] _
      refine run_ret ?_
      refine fin_ret2 rfl rfl rfl ?_
      obtain ⟨r1, r2⟩ := errOf_ok hl
      simp only at ho
      exact ⟨g, cap, sp, by rw [r1, r2, ho]; rfl, by rw [r1, ho]; exact hP.le, by rw [r1, ho]; exact hP.room, hP.nil, by rw [r1, ho]; dsimp only at hp14; omega, by rw [r1, ho]; exact H.pick [1] (by decide)⟩
  · skip
    refine run_region ?_
    refine ops_val (ex_move rfl) ?_
    refine ops_val (ex_nilCheck rfl) ?_
    refine ops_val (ex_fieldAddr fl102_2 rfl) ?_
    refine ops_val (ex_load ty4 rfl (H.cell (i := 0) rfl rfl)) ?_
    change Ops _ _ _ _ _ _ [_, _, _, _, _, _, _, _, _, _, _, _, _, _, _, _, _, _, _, _] _
    refine ops_val (ex_move rfl) ?_
    refine ops_no rfl ?_
    change Ops _ _ _ _ _ _ [_, _, _, _, _, _, _, _, _, _, _, _, _, _, _, _, _, _, _, _] _
    refine ops_no rfl ?_
    refine ops_no rfl ?_
    change Ops _ _ _ _ _ _ [_, _, _, _, _, _, _, _, _, _, _, _, _, _, _, _, _, _, _, _] _
    refine ops_no rfl ?_
    refine ops_no rfl ?_
    change Ops _ _ _ _ _ _ [_, _, _, _, _, _, _, _, _, _, _, _, _, _, _, _, _, _, _, _] _
    refine ops_no rfl ?_
    refine ops_val (ex_pick_t rfl rfl) ?_
    refine ops_nil ?_
    change Run _ _ _ _ [_, _, _, _, _, _, _, _, _, _, _, _, _, _, _, _, _, _, _, _] _
    refine run_cond_true rfl ?_
    refine run_seq ?_
    refine run_region ?_
    refine ops_val (ex_assign rfl) ?_
    refine ops_val (ex_assign rfl) ?_
    refine ops_nil ?_
    change Run _ _ _ _ [_, _, _, _, _, _, _, _, _, _, _, _, _, _, _, _, _, _, _, _] _
    refine run_ret ?_
    refine fin_ret2 rfl rfl rfl ?_
    have hl := q1 (.inl rfl)
    obtain ⟨r1, r2⟩ := errOf_long hl
    exact ⟨none, 0, [], by rw [r1, r2]; rfl, by rw [r1]; exact Nat.le_refl 0, Nat.zero_le _, fun _ => rfl, by rw [r1]; decide, by rw [r1]; exact Hp.nil (H.pick [] (by decide)) 5⟩
set_option maxRecDepth 100000 in
set_option maxHeartbeats 4000000 in
theorem in_long (AA : Option Addr) (b : List UInt8) (c : Nat) (w0 : World) (hl : 65536 < b.length) :
    Does Try.prog 45 #[.slice AA b.length c] w0 (fun r w' => ∃ gk : Nat, r = .tuple #[.pointer (some ⟨gk, 0, none⟩), .int .i64 22] ∧ Hp w0 w' [] []) := by
  refine does_of Try.func45 Try.ntmps45 rfl ?_
  change Run _ _ _ _ [.slice AA b.length c, undef, undef, undef, undef, undef, undef, undef, undef, undef, undef, undef, undef, undef] _
  have H := Hp.refl w0
  refine run_seq ?_
  refine run_region ?_
  refine ops_val (ex_assign rfl) ?_
  refine ops_val (ex_assign rfl) ?_
  refine ops_nil ?_
  change Run _ _ _ _ [_, _, _, _, _, _, _, _, _, _, _, _, _, _] _
  refine run_seq ?_
  refine run_seq ?_
  refine run_region ?_
  refine ops_val (ex_move rfl) ?_
  refine ops_val (ex_len_slice Try.underlying26 rfl) ?_
  refine ops_true (ex_gtr rfl rfl) (by omega) ?_
  refine ops_nil ?_
  change Run _ _ _ _ [_, _, _, _, _, _, _, _, _, _, _, _, _, _] _
  refine run_cond_true rfl ?_
  refine run_seq ?_
  refine run_region ?_
  refine ops_newW (ex_call gf84 rfl) (newW_any none [] 0 _ (Rd.none_ _ _) (by decide)) ?_
  intro w1 gr g cap sp hcb hroom hnil Hd
  have H1 := H.call0 Hd
  refine ops_val (ex_build ty102 pl102 rfl rfl) ?_
  refine ops_box rfl rfl H1 ?_
  intro w2 gk H2 hgk
  refine ops_val (ex_assign rfl) ?_
  change Ops _ _ _ _ _ _ [_, _, _, _, _, _, _, _, _, _, _, _, _, _] _
  refine ops_val (ex_assign rfl) ?_
  refine ops_nil ?_
  change Run _ _ _ _ [_, _, _, _, _, _, _, _, _, _, _, _, _, _] _
  refine run_ret ?_
  refine fin_ret2 rfl rfl rfl ?_
  exact ⟨gk, rfl, H2.pick [] (by decide)⟩
set_option maxRecDepth 100000 in
set_option maxHeartbeats 4000000 in
theorem in_ok (AA : Option Addr) (b : List UInt8) (c : Nat) (w0 : World) (hl : b.length ≤ 65536) (hr : Rd w0 AA b.length 1 (u8s b)) :
    Does Try.prog 45 #[.slice AA b.length c] w0 (fun r w' => ∃ gk gr g cap sp, r = .tuple #[.pointer (some ⟨gk, 0, none⟩), .int .i64 0] ∧ b.length ≤ cap ∧ Hp w0 w' [] (vr gk gr g cap sp b 0 0)) := by
  refine does_of Try.func45 Try.ntmps45 rfl ?_
  change Run _ _ _ _ [.slice AA b.length c, undef, undef, undef, undef, undef, undef, undef, undef, undef, undef, undef, undef, undef] _
  have H := Hp.refl w0
  refine run_seq ?_
  refine run_region ?_
  refine ops_val (ex_assign rfl) ?_
  refine ops_val (ex_assign rfl) ?_
  refine ops_nil ?_
  change Run _ _ _ _ [_, _, _, _, _, _, _, _, _, _, _, _, _, _] _
  refine run_seq ?_
  refine run_seq ?_
  refine run_region ?_
  refine ops_val (ex_move rfl) ?_
  refine ops_val (ex_len_slice Try.underlying26 rfl) ?_
  refine ops_false (ex_gtr rfl rfl) (by omega) ?_
  refine ops_nil ?_
  change Run _ _ _ _ [_, _, _, _, _, _, _, _, _, _, _, _, _, _] _
  refine run_cond_false rfl ?_
  refine run_skip ?_
  refine run_seq ?_
  refine run_region ?_
  refine ops_val (ex_move rfl) ?_
  refine ops_newW (ex_call gf84 rfl) (newW_any AA b c _ (hr.to0 H) (by omega)) ?_
  intro w1 gr g cap sp hcb hroom hnil Hd
  have H1 := H.call0 Hd
  refine ops_val (ex_build ty102 pl102 rfl rfl) ?_
  refine ops_box rfl rfl H1 ?_
  intro w2 gk H2 hgk
  change Ops _ _ _ _ _ _ [_, _, _, _, _, _, _, _, _, _, _, _, _, _] _
  refine ops_val (ex_assign rfl) ?_
  refine ops_val (ex_assign rfl) ?_
  refine ops_nil ?_
  change Run _ _ _ _ [_, _, _, _, _, _, _, _, _, _, _, _, _, _] _
  refine run_ret ?_
  refine fin_ret2 rfl rfl rfl ?_
  exact ⟨gk, gr, g, cap, sp, rfl, hcb, H2.pick [2, 0, 1] (by decide)⟩
set_option maxRecDepth 100000 in
set_option maxHeartbeats 4000000 in
theorem command_vwr (x : thcommand.X) (cells : List Value) (w0 : World) (hM : thcommand.M w0 (fun _ => True) x cells) :
    Does Try.prog 12 #[.agg cells.toArray] w0 (fun r w' => WrRes w0 w' r (wAll (thcommand.fl x) W0)) := by
  refine does_of Try.func12 Try.ntmps12 rfl ?_
  change Run _ _ _ _ [.agg cells.toArray, undef, undef, undef, undef, undef, undef, undef, undef, undef, undef, undef, undef] _
  have hlen : cells.length = 25 := thcommand.len hM
  have H := Hp.refl w0
  refine run_seq ?_
  refine run_region ?_
  refine ops_box rfl rfl H ?_
  intro w1 g1 H1 hg1
  refine ops_val (ex_assign rfl) ?_
  refine ops_val (ex_assign rfl) ?_
  refine ops_nil ?_
  change Run _ _ _ _ [_, _, _, _, _, _, _, _, _, _, _, _, _] _
  refine run_seq ?_
  refine run_region ?_
  refine ops_val (ex_build ty102 pl102 rfl rfl) ?_
  refine ops_box rfl rfl H1 ?_
  intro w2 gk H2 hgk
  refine ops_val (ex_assign rfl) ?_
  refine ops_nil ?_
  change Run _ _ _ _ [_, _, _, _, _, _, _, _, _, _, _, _, _] _
  refine run_seq ?_
  refine run_region ?_
  refine ops_val (ex_move rfl) ?_
  have hM1 := thcommand.to hM H2 (fun _ _ => by simp)
  have HP : Hp w0 w2 [] (vwo gk none 0 [] W0 g1 28 cells) := (H2.nil 5).pick [1, 2, 0] (by decide)
  have hM2 := thcommand.to hM HP (fun _ _ => by simp)
  refine ops_call (ex_call gf41 rfl) (vcommand_W gk g1 0 none 0 [] W0 28 cells x cells _ 0 W0 HP.here (by decide) ⟨Nat.le_refl _, Nat.le_refl _, fun _ => rfl, Nat.le_refl _⟩ (.inr ⟨rfl, rfl, rfl, Nat.zero_le _⟩) (thcommand.mono hM2 fun _ h => h.2) (At.self _)) ?_
  rintro _ w3 ⟨st, g, cap, sp, hL, hPk, Hd⟩
  have H3 := HP.all Hd
  refine ops_nil ?_
  change Run _ _ _ _ [_, _, _, _, _, _, _, _, _, _, _, _, _] _
  refine run_seq ?_
  refine run_region ?_
  refine ops_val (ex_move rfl) ?_
  refine ops_call (ex_call gf42 rfl) (done_any gk g cap sp st g1 28 cells _ H3.here 1000000000 (hPk.mono (by decide)) _ hL) ?_
  rintro _ w4 ⟨g2, cap2, sp2, rfl, q1, q2, q3, q4, Hd⟩
  have H4 := H3.all Hd
  refine ops_val (ex_extract rfl rfl) ?_
  refine ops_val (ex_extract rfl rfl) ?_
  change Ops _ _ _ _ _ _ [_, _, _, _, _, _, _, _, _, _, _, _, _] _
  refine ops_val (ex_assign rfl) ?_
  refine ops_val (ex_assign rfl) ?_
  refine ops_nil ?_
  change Run _ _ _ _ [_, _, _, _, _, _, _, _, _, _, _, _, _] _
  refine run_ret ?_
  refine fin_ret2 rfl rfl rfl ?_
  exact ⟨g2, cap2, sp2, rfl, q1, q2, q3, q4, H4⟩
set_option maxRecDepth 100000 in
set_option maxHeartbeats 4000000 in
theorem command_vrd1 (AA : Option Addr) (b : List UInt8) (c : Nat) (w0 : World) (hr : Rd w0 AA b.length 1 (u8s b)) (hb : b.length ≤ 211106232532900) (hl : 65536 < b.length) :
    Does Try.prog 14 #[.slice AA b.length c] w0 (fun r w' => RdRes thcommand b w0 w' r) := by
  refine does_of Try.func14 Try.ntmps14 rfl ?_
  change Run _ _ _ _ [.slice AA b.length c, undef, undef, undef, undef, undef, undef, undef, undef, undef, undef, undef, undef, undef, undef, undef, undef, undef, undef, undef, undef, undef, undef, undef, undef, undef, undef, undef] _
  have H := Hp.refl w0
  have he : errR thcommand b = 22 := errR_long hl
  refine run_seq ?_
  refine run_region ?_
  refine ops_alloc ty28 H ?_
  intro w1 g1 H1 hg1
  refine ops_val (ex_assign rfl) ?_
  refine ops_nil ?_
  change Run _ _ _ _ [_, _, _, _, _, _, _, _, _, _, _, _, _, _, _, _, _, _, _, _, _, _, _, _, _, _, _, _] _
  refine run_seq ?_
  refine run_region ?_
  refine ops_val (ex_move rfl) ?_
  refine ops_call (ex_call gf45 rfl) (in_long AA b c _ hl) ?_
  rintro _ w2 ⟨gk, rfl, Hd⟩
  have H2 := (H1.call0 Hd)
  refine ops_val (ex_move rfl) ?_
  refine ops_val (ex_extract rfl rfl) ?_
  change Ops _ _ _ _ _ _ [_, _, _, _, _, _, _, _, _, _, _, _, _, _, _, _, _, _, _, _, _, _, _, _, _, _, _, _] _
  refine ops_val (ex_extract rfl rfl) ?_
  refine ops_val (ex_assign rfl) ?_
  refine ops_val (ex_assign rfl) ?_
  refine ops_nil ?_
  change Run _ _ _ _ [_, _, _, _, _, _, _, _, _, _, _, _, _, _, _, _, _, _, _, _, _, _, _, _, _, _, _, _] _
  refine run_seq ?_
  refine run_seq ?_
  refine run_region ?_
  refine ops_val (ex_move rfl) ?_
  refine ops_true (ex_neq rfl rfl) (by simp) ?_
  refine ops_nil ?_
  change Run _ _ _ _ [_, _, _, _, _, _, _, _, _, _, _, _, _, _, _, _, _, _, _, _, _, _, _, _, _, _, _, _] _
  refine run_cond_true rfl ?_
  refine run_seq ?_
  refine run_region ?_
  refine ops_val (ex_build ty28 pl28 rfl rfl) ?_
  refine ops_val (ex_move rfl) ?_
  refine ops_store ty28 H2 0 rfl rfl rfl rfl rfl (by first | decide | simp) rfl ?_
  intro w3 H3
  refine ops_val (ex_assign rfl) ?_
  refine ops_nil ?_
  change Run _ _ _ _ [_, _, _, _, _, _, _, _, _, _, _, _, _, _, _, _, _, _, _, _, _, _, _, _, _, _, _, _] _
  refine run_ret ?_
  refine fin_cell_tmp rfl ty28 rfl rfl rfl (H3.cells (i := 0) rfl) ?_
  exact ⟨_, by rw [he]; rfl, by rw [gotR_bad (by rw [he]; decide)]; exact thcommand.zM _ _, H3.pick [] (by decide)⟩
set_option maxRecDepth 100000 in
set_option maxHeartbeats 4000000 in
theorem command_vrd2 (AA : Option Addr) (b : List UInt8) (c : Nat) (w0 : World) (hr : Rd w0 AA b.length 1 (u8s b)) (hb : b.length ≤ 211106232532900) (hl : b.length ≤ 65536) :
    Does Try.prog 14 #[.slice AA b.length c] w0 (fun r w' => RdRes thcommand b w0 w' r) := by
  refine does_of Try.func14 Try.ntmps14 rfl ?_
  change Run _ _ _ _ [.slice AA b.length c, undef, undef, undef, undef, undef, undef, undef, undef, undef, undef, undef, undef, undef, undef, undef, undef, undef, undef, undef, undef, undef, undef, undef, undef, undef, undef, undef] _
  have H := Hp.refl w0
  refine run_seq ?_
  refine run_region ?_
  refine ops_alloc ty28 H ?_
  intro w1 g1 H1 hg1
  refine ops_val (ex_assign rfl) ?_
  refine ops_nil ?_
  change Run _ _ _ _ [_, _, _, _, _, _, _, _, _, _, _, _, _, _, _, _, _, _, _, _, _, _, _, _, _, _, _, _] _
  refine run_seq ?_
  refine run_region ?_
  refine ops_val (ex_move rfl) ?_
  refine ops_call (ex_call gf45 rfl) (in_ok AA b c _ hl (hr.to0 H1)) ?_
  rintro _ w2 ⟨gk, gr, g, cap, sp, rfl, hcb, Hd⟩
  have H2 := (H1.call0 Hd)
  refine ops_val (ex_move rfl) ?_
  refine ops_val (ex_extract rfl rfl) ?_
  change Ops _ _ _ _ _ _ [_, _, _, _, _, _, _, _, _, _, _, _, _, _, _, _, _, _, _, _, _, _, _, _, _, _, _, _] _
  refine ops_val (ex_extract rfl rfl) ?_
  refine ops_val (ex_assign rfl) ?_
  refine ops_val (ex_assign rfl) ?_
  refine ops_nil ?_
  change Run _ _ _ _ [_, _, _, _, _, _, _, _, _, _, _, _, _, _, _, _, _, _, _, _, _, _, _, _, _, _, _, _] _
  refine run_seq ?_
  refine run_seq ?_
  refine run_region ?_
  refine ops_val (ex_move rfl) ?_
  refine ops_false (ex_neq rfl rfl) (by simp) ?_
  refine ops_nil ?_
  change Run _ _ _ _ [_, _, _, _, _, _, _, _, _, _, _, _, _, _, _, _, _, _, _, _, _, _, _, _, _, _, _, _] _
  refine run_cond_false rfl ?_
  refine run_skip ?_
  refine run_seq ?_
  refine run_region ?_
  refine ops_alloc ty28 H2 ?_
  intro w3 gc H3 hgc
  refine ops_nil ?_
  change Run _ _ _ _ [_, _, _, _, _, _, _, _, _, _, _, _, _, _, _, _, _, _, _, _, _, _, _, _, _, _, _, _] _
  refine run_seq ?_
  refine run_region ?_
  refine ops_val (ex_move rfl) ?_
  have HX : Hp w0 w3 [] ((vr gk gr g cap sp b 0 0 ++ [(some gc, 28, [.int .i64 0, .int .i64 0, .int .i64 0, .int .i64 0, .int .i64 0, .int .i64 0, .string .empty, .int .i64 0, .int .i64 0, .int .i64 0, .bool false, .int .i64 0, .string .empty, .string .empty, .int .i64 0, .int .i64 0, .int .i64 0, .int .i64 0, .int .i64 0, .int .i64 0, .string .empty, .string .empty, .int .i64 0, .int .i64 0, .slice none 0 0])]) ++ [(some g1, 28, [.int .i64 0, .int .i64 0, .int .i64 0, .int .i64 0, .int .i64 0, .int .i64 0, .string .empty, .int .i64 0, .int .i64 0, .int .i64 0, .bool false, .int .i64 0, .string .empty, .string .empty, .int .i64 0, .int .i64 0, .int .i64 0, .int .i64 0, .int .i64 0, .int .i64 0, .string .empty, .string .empty, .int .i64 0, .int .i64 0, .slice none 0 0])]) := H3.pick [1, 2, 3, 4, 0] (by decide)
  refine ops_call (ex_call gf41 rfl) (vcommand_R gk gr g cap sp b hcb hl gc 0 0 0 28 _ _ HX.less.here (Nat.zero_le _) (At.self _) (Nat.le_refl _)) ?_
  rintro _ w4 hq
  obtain ⟨⟨x, i, e⟩, hx⟩ : ∃ y, thcommand.rd b 0 0 = y := ⟨_, rfl⟩
  obtain ⟨us, hul, hone, Hd, hM⟩ := hq.get hx
  have hil : i ≤ b.length := by have := thcommand.le (b := b) (i := 0) (e := 0) (Nat.zero_le _); rw [hx] at this; exact this
  have hpu : putAt [.int .i64 0, .int .i64 0, .int .i64 0, .int .i64 0, .int .i64 0, .int .i64 0, .string .empty, .int .i64 0, .int .i64 0, .int .i64 0, .bool false, .int .i64 0, .string .empty, .string .empty, .int .i64 0, .int .i64 0, .int .i64 0, .int .i64 0, .int .i64 0, .int .i64 0, .string .empty, .string .empty, .int .i64 0, .int .i64 0, .slice none 0 0] 0 us = us := putAt_all hul
  rw [hpu] at Hd hM
  have hg1 : g1 < w3.heap.size := HX.lt (i := 4) rfl
  have hsz := HX.size
  obtain ⟨nn, hnn⟩ : ∃ n, w3.heap.size = n := ⟨_, rfl⟩
  rw [hnn] at hg1 hsz hM
  have HB := HX.front Hd
  have H4 := HB.here
  refine ops_nil ?_
  change Run _ _ _ _ [_, _, _, _, _, _, _, _, _, _, _, _, _, _, _, _, _, _, _, _, _, _, _, _, _, _, _, _] _
  refine run_seq ?_
  refine run_region ?_
  refine ops_val (ex_move rfl) ?_
  refine ops_val (ex_nilCheck rfl) ?_
  refine ops_val (ex_fieldAddr fl102_1 rfl) ?_
  refine ops_val (ex_load ty100 rfl (H4.cell (i := 0) rfl rfl)) ?_
  change Ops _ _ _ _ _ _ [_, _, _, _, _, _, _, _, _, _, _, _, _, _, _, _, _, _, _, _, _, _, _, _, _, _, _, _] _
  refine ops_call_val (ex_call gf46 rfl) (endW_rd gr (hd g) cap b i e _ (rdw_of H4 (j := 1) (k := 2) rfl rfl (by decide) hcb (by omega) hil)) ?_
  intro w5 He
  have H5 := H4.call0 He
  refine ops_val (ex_assign rfl) ?_
  refine ops_nil ?_
  change Run _ _ _ _ [_, _, _, _, _, _, _, _, _, _, _, _, _, _, _, _, _, _, _, _, _, _, _, _, _, _, _, _] _
  refine run_seq ?_
  refine run_seq ?_
  refine run_region ?_
  refine ops_val (ex_move rfl) ?_
  refine ops_test (ex_neq rfl rfl) (fun hp24 => ?_) (fun hp24 => ?_)
  · have he := errR_eq hl hx
    have h0 : errR thcommand b ≠ 0 := by omega
    rw [← he]
    refine ops_nil ?_
    change Run _ _ _ _ [_, _, _, _, _, _, _, _, _, _, _, _, _, _, _, _, _, _, _, _, _, _, _, _, _, _, _, _] _
    refine run_cond_true rfl ?_
    refine run_seq ?_
    refine run_region ?_
    refine ops_val (ex_build ty28 pl28 rfl rfl) ?_
    refine ops_val (ex_move rfl) ?_
    refine ops_store ty28 H5 4 rfl rfl rfl rfl rfl (by decide) rfl ?_
    intro w6 H6
    refine ops_val (ex_assign rfl) ?_
    refine ops_nil ?_
    change Run _ _ _ _ [_, _, _, _, _, _, _, _, _, _, _, _, _, _, _, _, _, _, _, _, _, _, _, _, _, _, _, _] _
    refine run_ret ?_
    refine fin_cell_tmp rfl ty28 rfl rfl rfl (H6.cells (i := 4) rfl) ?_
    exact ⟨_, rfl, by rw [gotR_bad h0]; exact thcommand.zM _ _, (HB.all H6).pick [] (by decide)⟩
  · have he := errR_eq hl hx
    have h0 : (if e = 0 ∧ i < b.length then 24 else e) = 0 := by omega
    have he0 : e = 0 := by split at h0 <;> omega
    have hm := hM he0
    rw [h0] at he
    refine ops_nil ?_
    change Run _ _ _ _ [_, _, _, _, _, _, _, _, _, _, _, _, _, _, _, _, _, _, _, _, _, _, _, _, _, _, _, _] _
    refine run_cond_false rfl ?_
    refine run_skip ?_
    refine run_seq ?_
    refine run_region ?_
    refine ops_val (ex_loadN ty28 rfl (vs := us) hul (H5.cells (i := 3) rfl)) ?_
    refine ops_store ty28 H5 4 rfl rfl rfl rfl hul (by rw [hul]; decide) hone ?_
    intro w6 H6
    have hpu2 : putAt [.int .i64 0, .int .i64 0, .int .i64 0, .int .i64 0, .int .i64 0, .int .i64 0, .string .empty, .int .i64 0, .int .i64 0, .int .i64 0, .bool false, .int .i64 0, .string .empty, .string .empty, .int .i64 0, .int .i64 0, .int .i64 0, .int .i64 0, .int .i64 0, .int .i64 0, .string .empty, .string .empty, .int .i64 0, .int .i64 0, .slice none 0 0] 0 us = us := putAt_all hul
    rw [hpu2] at H6
    refine ops_val (ex_assign rfl) ?_
    refine ops_nil ?_
    change Run _ _ _ _ [_, _, _, _, _, _, _, _, _, _, _, _, _, _, _, _, _, _, _, _, _, _, _, _, _, _, _, _] _
    refine run_ret ?_
    refine fin_cell_tmp rfl ty28 rfl rfl hul (H6.cells (i := 4) rfl) ?_
    have hm2 := thcommand.to hm H6 (fun p hp => by
      intro hq
      have h2 := hp.1
      have h1 := hp.2.1
      rw [bl_append] at hq
      rcases List.mem_append.1 hq with hq | hq
      · exact h1 hq
      · simp [bl] at hq; omega)
    exact ⟨us, by rw [he]; rfl, by rw [(gotR_ok he).1, hx]; exact thcommand.mono hm2 (fun p hp => ⟨by have := hp.1.1; omega, hp.1.2.2.to H6 (by
      intro hq
      have h2 := hp.1.1
      have h1 := hp.1.2.1
      rw [bl_append] at hq
      rcases List.mem_append.1 hq with hq | hq
      · exact h1 hq
      · simp [bl] at hq; omega)⟩), (HB.all H6).pick [] (by decide)⟩
theorem command_vrd (AA : Option Addr) (b : List UInt8) (c : Nat) (w0 : World) (hr : Rd w0 AA b.length 1 (u8s b)) (hb : b.length ≤ 211106232532900) : Does Try.prog 14 #[.slice AA b.length c] w0 (fun r w' => RdRes thcommand b w0 w' r) := by
  rcases Nat.lt_or_ge 65536 b.length with hl | hl
  · exact command_vrd1 AA b c w0 hr hb hl
  · exact command_vrd2 AA b c w0 hr hb hl
set_option maxRecDepth 100000 in
set_option maxHeartbeats 4000000 in
theorem note_vwr (x : thnote.X) (cells : List Value) (w0 : World) (hM : thnote.M w0 (fun _ => True) x cells) :
    Does Try.prog 21 #[.agg cells.toArray] w0 (fun r w' => WrRes w0 w' r (wAll (thnote.fl x) W0)) := by
  refine does_of Try.func21 Try.ntmps21 rfl ?_
  change Run _ _ _ _ [.agg cells.toArray, undef, undef, undef, undef, undef, undef, undef, undef, undef, undef, undef, undef] _
  have hlen : cells.length = 16 := thnote.len hM
  have H := Hp.refl w0
  refine run_seq ?_
  refine run_region ?_
  refine ops_box rfl rfl H ?_
  intro w1 g1 H1 hg1
  refine ops_val (ex_assign rfl) ?_
  refine ops_val (ex_assign rfl) ?_
  refine ops_nil ?_
  change Run _ _ _ _ [_, _, _, _, _, _, _, _, _, _, _, _, _] _
  refine run_seq ?_
  refine run_region ?_
  refine ops_val (ex_build ty102 pl102 rfl rfl) ?_
  refine ops_box rfl rfl H1 ?_
  intro w2 gk H2 hgk
  refine ops_val (ex_assign rfl) ?_
  refine ops_nil ?_
  change Run _ _ _ _ [_, _, _, _, _, _, _, _, _, _, _, _, _] _
  refine run_seq ?_
  refine run_region ?_
  refine ops_val (ex_move rfl) ?_
  have hM1 := thnote.to hM H2 (fun _ _ => by simp)
  have HP : Hp w0 w2 [] (vwo gk none 0 [] W0 g1 50 cells) := (H2.nil 5).pick [1, 2, 0] (by decide)
  have hM2 := thnote.to hM HP (fun _ _ => by simp)
  refine ops_call (ex_call gf50 rfl) (vnote_W gk g1 0 none 0 [] W0 50 cells x cells _ 0 W0 HP.here (by decide) ⟨Nat.le_refl _, Nat.le_refl _, fun _ => rfl, Nat.le_refl _⟩ (.inr ⟨rfl, rfl, rfl, Nat.zero_le _⟩) (thnote.mono hM2 fun _ h => h.2) (At.self _)) ?_
  rintro _ w3 ⟨st, g, cap, sp, hL, hPk, Hd⟩
  have H3 := HP.all Hd
  refine ops_nil ?_
  change Run _ _ _ _ [_, _, _, _, _, _, _, _, _, _, _, _, _] _
  refine run_seq ?_
  refine run_region ?_
  refine ops_val (ex_move rfl) ?_
  refine ops_call (ex_call gf42 rfl) (done_any gk g cap sp st g1 50 cells _ H3.here 1000000000 (hPk.mono (by decide)) _ hL) ?_
  rintro _ w4 ⟨g2, cap2, sp2, rfl, q1, q2, q3, q4, Hd⟩
  have H4 := H3.all Hd
  refine ops_val (ex_extract rfl rfl) ?_
  refine ops_val (ex_extract rfl rfl) ?_
  change Ops _ _ _ _ _ _ [_, _, _, _, _, _, _, _, _, _, _, _, _] _
  refine ops_val (ex_assign rfl) ?_
  refine ops_val (ex_assign rfl) ?_
  refine ops_nil ?_
  change Run _ _ _ _ [_, _, _, _, _, _, _, _, _, _, _, _, _] _
  refine run_ret ?_
  refine fin_ret2 rfl rfl rfl ?_
  exact ⟨g2, cap2, sp2, rfl, q1, q2, q3, q4, H4⟩
set_option maxRecDepth 100000 in
set_option maxHeartbeats 4000000 in
theorem note_vrd1 (AA : Option Addr) (b : List UInt8) (c : Nat) (w0 : World) (hr : Rd w0 AA b.length 1 (u8s b)) (hb : b.length ≤ 211106232532900) (hl : 65536 < b.length) :
    Does Try.prog 23 #[.slice AA b.length c] w0 (fun r w' => RdRes thnote b w0 w' r) := by
  refine does_of Try.func23 Try.ntmps23 rfl ?_
  change Run _ _ _ _ [.slice AA b.length c, undef, undef, undef, undef, undef, undef, undef, undef, undef, undef, undef, undef, undef, undef, undef, undef, undef, undef, undef, undef, undef, undef, undef, undef, undef, undef, undef] _
  have H := Hp.refl w0
  have he : errR thnote b = 22 := errR_long hl
  refine run_seq ?_
  refine run_region ?_
  refine ops_alloc ty50 H ?_
  intro w1 g1 H1 hg1
  refine ops_val (ex_assign rfl) ?_
  refine ops_nil ?_
  change Run _ _ _ _ [_, _, _, _, _, _, _, _, _, _, _, _, _, _, _, _, _, _, _, _, _, _, _, _, _, _, _, _] _
  refine run_seq ?_
  refine run_region ?_
  refine ops_val (ex_move rfl) ?_
  refine ops_call (ex_call gf45 rfl) (in_long AA b c _ hl) ?_
  rintro _ w2 ⟨gk, rfl, Hd⟩
  have H2 := (H1.call0 Hd)
  refine ops_val (ex_move rfl) ?_
  refine ops_val (ex_extract rfl rfl) ?_
  change Ops _ _ _ _ _ _ [_, _, _, _, _, _, _, _, _, _, _, _, _, _, _, _, _, _, _, _, _, _, _, _, _, _, _, _] _
  refine ops_val (ex_extract rfl rfl) ?_
  refine ops_val (ex_assign rfl) ?_
  refine ops_val (ex_assign rfl) ?_
  refine ops_nil ?_
  change Run _ _ _ _ [_, _, _, _, _, _, _, _, _, _, _, _, _, _, _, _, _, _, _, _, _, _, _, _, _, _, _, _] _
  refine run_seq ?_
  refine run_seq ?_
  refine run_region ?_
  refine ops_val (ex_move rfl) ?_
  refine ops_true (ex_neq rfl rfl) (by simp) ?_
  refine ops_nil ?_
  change Run _ _ _ _ [_, _, _, _, _, _, _, _, _, _, _, _, _, _, _, _, _, _, _, _, _, _, _, _, _, _, _, _] _
  refine run_cond_true rfl ?_
  refine run_seq ?_
  refine run_region ?_
  refine ops_val (ex_build ty50 pl50 rfl rfl) ?_
  refine ops_val (ex_move rfl) ?_
  refine ops_store ty50 H2 0 rfl rfl rfl rfl rfl (by first | decide | simp) rfl ?_
  intro w3 H3
  refine ops_val (ex_assign rfl) ?_
  refine ops_nil ?_
  change Run _ _ _ _ [_, _, _, _, _, _, _, _, _, _, _, _, _, _, _, _, _, _, _, _, _, _, _, _, _, _, _, _] _
  refine run_ret ?_
  refine fin_cell_tmp rfl ty50 rfl rfl rfl (H3.cells (i := 0) rfl) ?_
  exact ⟨_, by rw [he]; rfl, by rw [gotR_bad (by rw [he]; decide)]; exact thnote.zM _ _, H3.pick [] (by decide)⟩
set_option maxRecDepth 100000 in
set_option maxHeartbeats 4000000 in
theorem note_vrd2 (AA : Option Addr) (b : List UInt8) (c : Nat) (w0 : World) (hr : Rd w0 AA b.length 1 (u8s b)) (hb : b.length ≤ 211106232532900) (hl : b.length ≤ 65536) :
    Does Try.prog 23 #[.slice AA b.length c] w0 (fun r w' => RdRes thnote b w0 w' r) := by
  refine does_of Try.func23 Try.ntmps23 rfl ?_
  change Run _ _ _ _ [.slice AA b.length c, undef, undef, undef, undef, undef, undef, undef, undef, undef, undef, undef, undef, undef, undef, undef, undef, undef, undef, undef, undef, undef, undef, undef, undef, undef, undef, undef] _
  have H := Hp.refl w0
  refine run_seq ?_
  refine run_region ?_
  refine ops_alloc ty50 H ?_
  intro w1 g1 H1 hg1
  refine ops_val (ex_assign rfl) ?_
  refine ops_nil ?_
  change Run _ _ _ _ [_, _, _, _, _, _, _, _, _, _, _, _, _, _, _, _, _, _, _, _, _, _, _, _, _, _, _, _] _
  refine run_seq ?_
  refine run_region ?_
  refine ops_val (ex_move rfl) ?_
  refine ops_call (ex_call gf45 rfl) (in_ok AA b c _ hl (hr.to0 H1)) ?_
  rintro _ w2 ⟨gk, gr, g, cap, sp, rfl, hcb, Hd⟩
  have H2 := (H1.call0 Hd)
  refine ops_val (ex_move rfl) ?_
  refine ops_val (ex_extract rfl rfl) ?_
  change Ops _ _ _ _ _ _ [_, _, _, _, _, _, _, _, _, _, _, _, _, _, _, _, _, _, _, _, _, _, _, _, _, _, _, _] _
  refine ops_val (ex_extract rfl rfl) ?_
  refine ops_val (ex_assign rfl) ?_
  refine ops_val (ex_assign rfl) ?_
  refine ops_nil ?_
  change Run _ _ _ _ [_, _, _, _, _, _, _, _, _, _, _, _, _, _, _, _, _, _, _, _, _, _, _, _, _, _, _, _] _
  refine run_seq ?_
  refine run_seq ?_
  refine run_region ?_
  refine ops_val (ex_move rfl) ?_
  refine ops_false (ex_neq rfl rfl) (by simp) ?_
  refine ops_nil ?_
  change Run _ _ _ _ [_, _, _, _, _, _, _, _, _, _, _, _, _, _, _, _, _, _, _, _, _, _, _, _, _, _, _, _] _
  refine run_cond_false rfl ?_
  refine run_skip ?_
  refine run_seq ?_
  refine run_region ?_
  refine ops_alloc ty50 H2 ?_
  intro w3 gc H3 hgc
  refine ops_nil ?_
  change Run _ _ _ _ [_, _, _, _, _, _, _, _, _, _, _, _, _, _, _, _, _, _, _, _, _, _, _, _, _, _, _, _] _
  refine run_seq ?_
  refine run_region ?_
  refine ops_val (ex_move rfl) ?_
  have HX : Hp w0 w3 [] ((vr gk gr g cap sp b 0 0 ++ [(some gc, 50, [.int .i64 0, .int .i64 0, .int .i64 0, .int .i64 0, .int .i64 0, .int .i64 0, .int .i64 0, .slice none 0 0, .int .i64 0, .slice none 0 0, .int .i64 0, .string .empty, .int .i64 0, .int .i64 0, .int .i64 0, .int .i64 0])]) ++ [(some g1, 50, [.int .i64 0, .int .i64 0, .int .i64 0, .int .i64 0, .int .i64 0, .int .i64 0, .int .i64 0, .slice none 0 0, .int .i64 0, .slice none 0 0, .int .i64 0, .string .empty, .int .i64 0, .int .i64 0, .int .i64 0, .int .i64 0])]) := H3.pick [1, 2, 3, 4, 0] (by decide)
  refine ops_call (ex_call gf50 rfl) (vnote_R gk gr g cap sp b hcb hl gc 0 0 0 50 _ _ HX.less.here (Nat.zero_le _) (At.self _) (Nat.le_refl _)) ?_
  rintro _ w4 hq
  obtain ⟨⟨x, i, e⟩, hx⟩ : ∃ y, thnote.rd b 0 0 = y := ⟨_, rfl⟩
  obtain ⟨us, hul, hone, Hd, hM⟩ := hq.get hx
  have hil : i ≤ b.length := by have := thnote.le (b := b) (i := 0) (e := 0) (Nat.zero_le _); rw [hx] at this; exact this
  have hpu : putAt [.int .i64 0, .int .i64 0, .int .i64 0, .int .i64 0, .int .i64 0, .int .i64 0, .int .i64 0, .slice none 0 0, .int .i64 0, .slice none 0 0, .int .i64 0, .string .empty, .int .i64 0, .int .i64 0, .int .i64 0, .int .i64 0] 0 us = us := putAt_all hul
  rw [hpu] at Hd hM
  have hg1 : g1 < w3.heap.size := HX.lt (i := 4) rfl
  have hsz := HX.size
  obtain ⟨nn, hnn⟩ : ∃ n, w3.heap.size = n := ⟨_, rfl⟩
  rw [hnn] at hg1 hsz hM
  have HB := HX.front Hd
  have H4 := HB.here
  refine ops_nil ?_
  change Run _ _ _ _ [_, _, _, _, _, _, _, _, _, _, _, _, _, _, _, _, _, _, _, _, _, _, _, _, _, _, _, _] _
  refine run_seq ?_
  refine run_region ?_
  refine ops_val (ex_move rfl) ?_
  refine ops_val (ex_nilCheck rfl) ?_
  refine ops_val (ex_fieldAddr fl102_1 rfl) ?_
  refine ops_val (ex_load ty100 rfl (H4.cell (i := 0) rfl rfl)) ?_
  change Ops _ _ _ _ _ _ [_, _, _, _, _, _, _, _, _, _, _, _, _, _, _, _, _, _, _, _, _, _, _, _, _, _, _, _] _
  refine ops_call_val (ex_call gf46 rfl) (endW_rd gr (hd g) cap b i e _ (rdw_of H4 (j := 1) (k := 2) rfl rfl (by decide) hcb (by omega) hil)) ?_
  intro w5 He
  have H5 := H4.call0 He
  refine ops_val (ex_assign rfl) ?_
  refine ops_nil ?_
  change Run _ _ _ _ [_, _, _, _, _, _, _, _, _, _, _, _, _, _, _, _, _, _, _, _, _, _, _, _, _, _, _, _] _
  refine run_seq ?_
  refine run_seq ?_
  refine run_region ?_
  refine ops_val (ex_move rfl) ?_
  refine ops_test (ex_neq rfl rfl) (fun hp24 => ?_) (fun hp24 => ?_)
  · have he := errR_eq hl hx
    have h0 : errR thnote b ≠ 0 := by omega
    rw [← he]
    refine ops_nil ?_
    change Run _ _ _ _ [_, _, _, _, _, _, _, _, _, _, _, _, _, _, _, _, _, _, _, _, _, _, _, _, _, _, _, _] _
    refine run_cond_true rfl ?_
    refine run_seq ?_
    refine run_region ?_
    refine ops_val (ex_build ty50 pl50 rfl rfl) ?_
    refine ops_val (ex_move rfl) ?_
    refine ops_store ty50 H5 4 rfl rfl rfl rfl rfl (by decide) rfl ?_
    intro w6 H6
    refine ops_val (ex_assign rfl) ?_
    refine ops_nil ?_
    change Run _ _ _ _ [_, _, _, _, _, _, _, _, _, _, _, _, _, _, _, _, _, _, _, _, _, _, _, _, _, _, _, _] _
    refine run_ret ?_
    refine fin_cell_tmp rfl ty50 rfl rfl rfl (H6.cells (i := 4) rfl) ?_
    exact ⟨_, rfl, by rw [gotR_bad h0]; exact thnote.zM _ _, (HB.all H6).pick [] (by decide)⟩
  · have he := errR_eq hl hx
    have h0 : (if e = 0 ∧ i < b.length then 24 else e) = 0 := by omega
    have he0 : e = 0 := by split at h0 <;> omega
    have hm := hM he0
    rw [h0] at he
    refine ops_nil ?_
    change Run _ _ _ _ [_, _, _, _, _, _, _, _, _, _, _, _, _, _, _, _, _, _, _, _, _, _, _, _, _, _, _, _] _
    refine run_cond_false rfl ?_
    refine run_skip ?_
    refine run_seq ?_
    refine run_region ?_
    refine ops_val (ex_loadN ty50 rfl (vs := us) hul (H5.cells (i := 3) rfl)) ?_
    refine ops_store ty50 H5 4 rfl rfl rfl rfl hul (by rw [hul]; decide) hone ?_
    intro w6 H6
    have hpu2 : putAt [.int .i64 0, .int .i64 0, .int .i64 0, .int .i64 0, .int .i64 0, .int .i64 0, .int .i64 0, .slice none 0 0, .int .i64 0, .slice none 0 0, .int .i64 0, .string .empty, .int .i64 0, .int .i64 0, .int .i64 0, .int .i64 0] 0 us = us := putAt_all hul
    rw [hpu2] at H6
    refine ops_val (ex_assign rfl) ?_
    refine ops_nil ?_
    change Run _ _ _ _ [_, _, _, _, _, _, _, _, _, _, _, _, _, _, _, _, _, _, _, _, _, _, _, _, _, _, _, _] _
    refine run_ret ?_
    refine fin_cell_tmp rfl ty50 rfl rfl hul (H6.cells (i := 4) rfl) ?_
    have hm2 := thnote.to hm H6 (fun p hp => by
      intro hq
      have h2 := hp.1
      have h1 := hp.2.1
      rw [bl_append] at hq
      rcases List.mem_append.1 hq with hq | hq
      · exact h1 hq
      · simp [bl] at hq; omega)
    exact ⟨us, by rw [he]; rfl, by rw [(gotR_ok he).1, hx]; exact thnote.mono hm2 (fun p hp => ⟨by have := hp.1.1; omega, hp.1.2.2.to H6 (by
      intro hq
      have h2 := hp.1.1
      have h1 := hp.1.2.1
      rw [bl_append] at hq
      rcases List.mem_append.1 hq with hq | hq
      · exact h1 hq
      · simp [bl] at hq; omega)⟩), (HB.all H6).pick [] (by decide)⟩
theorem note_vrd (AA : Option Addr) (b : List UInt8) (c : Nat) (w0 : World) (hr : Rd w0 AA b.length 1 (u8s b)) (hb : b.length ≤ 211106232532900) : Does Try.prog 23 #[.slice AA b.length c] w0 (fun r w' => RdRes thnote b w0 w' r) := by
  rcases Nat.lt_or_ge 65536 b.length with hl | hl
  · exact note_vrd1 AA b c w0 hr hb hl
  · exact note_vrd2 AA b c w0 hr hb hl
end Go.Proofs.Ytoeobicpdeklaaa
