/- Walks of layer 2, printed by wip/gen/codec.py. -/
import Derived.Test.YtoeobicpdeklaaaGreatNrm
import Derived.Test.YtoeobicpdeklaaaGreatWireV2
import Derived.Test.YtoeobicpdeklaaaGreatWireI0
import Derived.Test.YtoeobicpdeklaaaGreatWireR2
namespace Go.Proofs.YtoeobicpdeklaaaGreat
open Go Go.RowKit
set_option linter.unusedVariables false
attribute [local irreducible] Still Ops Does Cd
set_option maxRecDepth 100000 in
set_option maxHeartbeats 4000000 in
theorem state_vwr (x : thstateF.X) (cells : List Value) (w0 : World) (hM : thstateF.M w0 (fun _ => True) x cells) :
    Does Tryz.prog 6 #[.agg cells.toArray] w0 (fun r w' => WrRes w0 w' r (wAll (thstateF.fl x) W0)) := by
  refine does_of Tryz.func6 Tryz.ntmps6 rfl ?_
  refine nR13 ?_
  have hlen : cells.length = 29 := thstateF.len hM
  have H := Hp.refl w0
  refine run_seq ?_
  refine run_region ?_
  refine ops_box rfl rfl H ?_
  intro w1 g1 H1 hg1
  refine ops_val (ex_assign rfl) ?_
  refine ops_val (ex_assign rfl) ?_
  refine ops_nil ?_
  refine nR13 ?_
  refine run_seq ?_
  refine run_region ?_
  refine ops_val (ex_build ty51 pl51 rfl rfl) ?_
  refine ops_box rfl rfl H1 ?_
  intro w2 gk H2 hgk
  refine ops_val (ex_assign rfl) ?_
  refine ops_nil ?_
  refine nR13 ?_
  refine run_seq ?_
  refine run_region ?_
  refine ops_val (ex_move rfl) ?_
  have hM1 := thstateF.to hM H2 (fun _ _ => by simp)
  have HP : Hp w0 w2 [] (vwo gk none 0 [] W0 g1 31 cells) := (H2.nil 5).pick [1, 2, 0] (by decide)
  have hM2 := thstateF.to hM HP (fun _ _ => by simp)
  refine ops_call (ex_call gf16 rfl) (vstate_W gk g1 0 none 0 [] W0 31 cells x cells _ 0 W0 HP.here (by decide) ⟨Nat.le_refl _, Nat.le_refl _, fun _ => rfl, Nat.le_refl _⟩ (.inr ⟨rfl, rfl, rfl, Nat.zero_le _⟩) (thstateF.mono hM2 fun _ h => h.2) (At.self _)) ?_
  rintro _ w3 ⟨st, g, cap, sp, hL, hPk, Hd⟩
  have H3 := HP.all Hd
  refine ops_nil ?_
  refine nR13 ?_
  refine run_seq ?_
  refine run_region ?_
  refine ops_val (ex_move rfl) ?_
  refine ops_call (ex_call gf17 rfl) (done_any gk g cap sp st g1 31 cells _ H3.here 1000000000 (hPk.mono (by decide)) _ hL) ?_
  rintro _ w4 ⟨g2, cap2, sp2, rfl, q1, q2, q3, q4, Hd⟩
  have H4 := H3.all Hd
  refine ops_val (ex_extract rfl rfl) ?_
  refine ops_val (ex_extract rfl rfl) ?_
  refine nO13 ?_
  refine ops_val (ex_assign rfl) ?_
  refine ops_val (ex_assign rfl) ?_
  refine ops_nil ?_
  refine nR13 ?_
  refine run_ret ?_
  refine fin_ret2 rfl rfl rfl ?_
  exact ⟨g2, cap2, sp2, rfl, q1, q2, q3, q4, H4⟩
set_option maxRecDepth 100000 in
set_option maxHeartbeats 4000000 in
theorem state_vrd1 (AA : Option Addr) (b : List UInt8) (c : Nat) (w0 : World) (hr : Rd w0 AA b.length 1 (u8s b)) (hb : b.length ≤ 211106232532900) (hl : 65536 < b.length) :
    Does Tryz.prog 8 #[.slice AA b.length c] w0 (fun r w' => RdRes thstateF b w0 w' r) := by
  refine does_of Tryz.func8 Tryz.ntmps8 rfl ?_
  refine nR28 ?_
  have H := Hp.refl w0
  have he : errR thstateF b = 22 := errR_long hl
  refine run_seq ?_
  refine run_region ?_
  refine ops_alloc ty31 H ?_
  intro w1 g1 H1 hg1
  refine ops_val (ex_assign rfl) ?_
  refine ops_nil ?_
  refine nR28 ?_
  refine run_seq ?_
  refine run_region ?_
  refine ops_val (ex_move rfl) ?_
  refine ops_call (ex_call gf20 rfl) (in_long AA b c _ hl) ?_
  rintro _ w2 ⟨gk, rfl, Hd⟩
  have H2 := (H1.call0 Hd)
  refine ops_val (ex_move rfl) ?_
  refine ops_val (ex_extract rfl rfl) ?_
  refine nO28 ?_
  refine ops_val (ex_extract rfl rfl) ?_
  refine ops_val (ex_assign rfl) ?_
  refine ops_val (ex_assign rfl) ?_
  refine ops_nil ?_
  refine nR28 ?_
  refine run_seq ?_
  refine run_seq ?_
  refine run_region ?_
  refine ops_val (ex_move rfl) ?_
  refine ops_true (ex_neq rfl rfl) (by simp) ?_
  refine ops_nil ?_
  refine nR28 ?_
  refine run_cond_true rfl ?_
  refine run_seq ?_
  refine run_region ?_
  refine ops_val (ex_build ty31 pl31 rfl rfl) ?_
  refine ops_val (ex_move rfl) ?_
  refine ops_store ty31 H2 0 rfl rfl rfl rfl rfl (by first | decide | simp) rfl ?_
  intro w3 H3
  refine ops_val (ex_assign rfl) ?_
  refine ops_nil ?_
  refine nR28 ?_
  refine run_ret ?_
  refine fin_cell_tmp rfl ty31 rfl rfl rfl (H3.cells (i := 0) rfl) ?_
  exact ⟨_, by rw [he]; rfl, by rw [gotR_bad (by rw [he]; decide)]; exact thstateF.zM _ _, H3.pick [] (by decide)⟩
set_option maxRecDepth 100000 in
set_option maxHeartbeats 4000000 in
theorem state_vrd2 (AA : Option Addr) (b : List UInt8) (c : Nat) (w0 : World) (hr : Rd w0 AA b.length 1 (u8s b)) (hb : b.length ≤ 211106232532900) (hl : b.length ≤ 65536) :
    Does Tryz.prog 8 #[.slice AA b.length c] w0 (fun r w' => RdRes thstateF b w0 w' r) := by
  refine does_of Tryz.func8 Tryz.ntmps8 rfl ?_
  refine nR28 ?_
  have H := Hp.refl w0
  refine run_seq ?_
  refine run_region ?_
  refine ops_alloc ty31 H ?_
  intro w1 g1 H1 hg1
  refine ops_val (ex_assign rfl) ?_
  refine ops_nil ?_
  refine nR28 ?_
  refine run_seq ?_
  refine run_region ?_
  refine ops_val (ex_move rfl) ?_
  refine ops_call (ex_call gf20 rfl) (in_ok AA b c _ hl (hr.to0 H1)) ?_
  rintro _ w2 ⟨gk, gr, g, cap, sp, rfl, hcb, Hd⟩
  have H2 := (H1.call0 Hd)
  refine ops_val (ex_move rfl) ?_
  refine ops_val (ex_extract rfl rfl) ?_
  refine nO28 ?_
  refine ops_val (ex_extract rfl rfl) ?_
  refine ops_val (ex_assign rfl) ?_
  refine ops_val (ex_assign rfl) ?_
  refine ops_nil ?_
  refine nR28 ?_
  refine run_seq ?_
  refine run_seq ?_
  refine run_region ?_
  refine ops_val (ex_move rfl) ?_
  refine ops_false (ex_neq rfl rfl) (by simp) ?_
  refine ops_nil ?_
  refine nR28 ?_
  refine run_cond_false rfl ?_
  refine run_skip ?_
  refine run_seq ?_
  refine run_region ?_
  refine ops_alloc ty31 H2 ?_
  intro w3 gc H3 hgc
  refine ops_nil ?_
  refine nR28 ?_
  refine run_seq ?_
  refine run_region ?_
  refine ops_val (ex_move rfl) ?_
  have HX : Hp w0 w3 [] ((vr gk gr g cap sp b 0 0 ++ [(some gc, 31, [.int .i64 0, .int .i64 0, .bool false, .string .empty, .string .empty, .int .i64 0, .slice none 0 0, .slice none 0 0, .slice none 0 0, .slice none 0 0, .slice none 0 0, .int .i64 0, .int .i64 0, .int .i64 0, .string .empty, .string .empty, .int .i64 0, .int .i64 0, .int .i64 0, .int .i64 0, .int .i64 0, .string .empty, .string .empty, .int .i64 0, .int .i64 0, .slice none 0 0, .int .i64 0, .int .i64 0, .int .i64 0])]) ++ [(some g1, 31, [.int .i64 0, .int .i64 0, .bool false, .string .empty, .string .empty, .int .i64 0, .slice none 0 0, .slice none 0 0, .slice none 0 0, .slice none 0 0, .slice none 0 0, .int .i64 0, .int .i64 0, .int .i64 0, .string .empty, .string .empty, .int .i64 0, .int .i64 0, .int .i64 0, .int .i64 0, .int .i64 0, .string .empty, .string .empty, .int .i64 0, .int .i64 0, .slice none 0 0, .int .i64 0, .int .i64 0, .int .i64 0])]) := H3.pick [1, 2, 3, 4, 0] (by decide)
  refine ops_call (ex_call gf16 rfl) (vstate_R gk gr g cap sp b hcb hl gc 0 0 0 31 _ _ HX.less.here (Nat.zero_le _) (At.self _) (Nat.le_refl _)) ?_
  rintro _ w4 hq
  obtain ⟨⟨x, i, e⟩, hx⟩ : ∃ y, thstateF.rd b 0 0 = y := ⟨_, rfl⟩
  obtain ⟨us, hul, hone, Hd, hM⟩ := hq.get hx
  have hil : i ≤ b.length := by have := thstateF.le (b := b) (i := 0) (e := 0) (Nat.zero_le _); rw [hx] at this; exact this
  have hpu : putAt [.int .i64 0, .int .i64 0, .bool false, .string .empty, .string .empty, .int .i64 0, .slice none 0 0, .slice none 0 0, .slice none 0 0, .slice none 0 0, .slice none 0 0, .int .i64 0, .int .i64 0, .int .i64 0, .string .empty, .string .empty, .int .i64 0, .int .i64 0, .int .i64 0, .int .i64 0, .int .i64 0, .string .empty, .string .empty, .int .i64 0, .int .i64 0, .slice none 0 0, .int .i64 0, .int .i64 0, .int .i64 0] 0 us = us := putAt_all hul
  rw [hpu] at Hd hM
  have hg1 : g1 < w3.heap.size := HX.lt (i := 4) rfl
  have hsz := HX.size
  obtain ⟨nn, hnn⟩ : ∃ n, w3.heap.size = n := ⟨_, rfl⟩
  rw [hnn] at hg1 hsz hM
  have HB := HX.front Hd
  have H4 := HB.here
  refine ops_nil ?_
  refine nR28 ?_
  refine run_seq ?_
  refine run_region ?_
  refine ops_val (ex_move rfl) ?_
  refine ops_val (ex_nilCheck rfl) ?_
  refine ops_val (ex_fieldAddr fl51_1 rfl) ?_
  refine ops_val (ex_load ty49 rfl (H4.cell (i := 0) rfl rfl)) ?_
  refine nO28 ?_
  refine ops_call_val (ex_call gf21 rfl) (endW_rd gr (hd g) cap b i e _ (rdw_of H4 (j := 1) (k := 2) rfl rfl (by decide) hcb (by omega) hil)) ?_
  intro w5 He
  have H5 := H4.call0 He
  refine ops_val (ex_assign rfl) ?_
  refine ops_nil ?_
  refine nR28 ?_
  refine run_seq ?_
  refine run_seq ?_
  refine run_region ?_
  refine ops_val (ex_move rfl) ?_
  refine ops_test (ex_neq rfl rfl) (fun hp24 => ?_) (fun hp24 => ?_)
  · have he := errR_eq hl hx
    have h0 : errR thstateF b ≠ 0 := by omega
    rw [← he]
    refine ops_nil ?_
    refine nR28 ?_
    refine run_cond_true rfl ?_
    refine run_seq ?_
    refine run_region ?_
    refine ops_val (ex_build ty31 pl31 rfl rfl) ?_
    refine ops_val (ex_move rfl) ?_
    refine ops_store ty31 H5 4 rfl rfl rfl rfl rfl (by decide) rfl ?_
    intro w6 H6
    refine ops_val (ex_assign rfl) ?_
    refine ops_nil ?_
    refine nR28 ?_
    refine run_ret ?_
    refine fin_cell_tmp rfl ty31 rfl rfl rfl (H6.cells (i := 4) rfl) ?_
    exact ⟨_, rfl, by rw [gotR_bad h0]; exact thstateF.zM _ _, (HB.all H6).pick [] (by decide)⟩
  · have he := errR_eq hl hx
    have h0 : (if e = 0 ∧ i < b.length then 24 else e) = 0 := by omega
    have he0 : e = 0 := by split at h0 <;> omega
    have hm := hM he0
    rw [h0] at he
    refine ops_nil ?_
    refine nR28 ?_
    refine run_cond_false rfl ?_
    refine run_skip ?_
    refine run_seq ?_
    refine run_region ?_
    refine ops_val (ex_loadN ty31 rfl (vs := us) hul (H5.cells (i := 3) rfl)) ?_
    refine ops_store ty31 H5 4 rfl rfl rfl rfl hul (by rw [hul]; decide) hone ?_
    intro w6 H6
    have hpu2 : putAt [.int .i64 0, .int .i64 0, .bool false, .string .empty, .string .empty, .int .i64 0, .slice none 0 0, .slice none 0 0, .slice none 0 0, .slice none 0 0, .slice none 0 0, .int .i64 0, .int .i64 0, .int .i64 0, .string .empty, .string .empty, .int .i64 0, .int .i64 0, .int .i64 0, .int .i64 0, .int .i64 0, .string .empty, .string .empty, .int .i64 0, .int .i64 0, .slice none 0 0, .int .i64 0, .int .i64 0, .int .i64 0] 0 us = us := putAt_all hul
    rw [hpu2] at H6
    refine ops_val (ex_assign rfl) ?_
    refine ops_nil ?_
    refine nR28 ?_
    refine run_ret ?_
    refine fin_cell_tmp rfl ty31 rfl rfl hul (H6.cells (i := 4) rfl) ?_
    have hm2 := thstateF.to hm H6 (fun p hp => by
      intro hq
      have h2 := hp.1
      have h1 := hp.2.1
      rw [bl_append] at hq
      rcases List.mem_append.1 hq with hq | hq
      · exact h1 hq
      · simp [bl] at hq; omega)
    exact ⟨us, by rw [he]; rfl, by rw [(gotR_ok he).1, hx]; exact thstateF.mono hm2 (fun p hp => ⟨by have := hp.1.1; omega, hp.1.2.2.to H6 (by
      intro hq
      have h2 := hp.1.1
      have h1 := hp.1.2.1
      rw [bl_append] at hq
      rcases List.mem_append.1 hq with hq | hq
      · exact h1 hq
      · simp [bl] at hq; omega)⟩), (HB.all H6).pick [] (by decide)⟩
theorem state_vrd (AA : Option Addr) (b : List UInt8) (c : Nat) (w0 : World) (hr : Rd w0 AA b.length 1 (u8s b)) (hb : b.length ≤ 211106232532900) : Does Tryz.prog 8 #[.slice AA b.length c] w0 (fun r w' => RdRes thstateF b w0 w' r) := by
  rcases Nat.lt_or_ge 65536 b.length with hl | hl
  · exact state_vrd1 AA b c w0 hr hb hl
  · exact state_vrd2 AA b c w0 hr hb hl
end Go.Proofs.YtoeobicpdeklaaaGreat
