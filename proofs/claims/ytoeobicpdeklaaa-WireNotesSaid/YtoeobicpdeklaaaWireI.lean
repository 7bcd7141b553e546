/- Walks of layer 2, printed by wip/gen/codec.py. -/
import Derived.Test.YtoeobicpdeklaaaWireH
namespace Go.Proofs.Ytoeobicpdeklaaa
open Go Go.RowKit
set_option linter.unusedVariables false
attribute [local irreducible] Still Ops Does Cd
set_option maxRecDepth 100000 in
set_option maxHeartbeats 4000000 in
theorem in_long (AA : Option Addr) (b : List UInt8) (c : Nat) (w0 : World) (hl : 65536 < b.length) :
    Does Try.prog 45 #[.slice AA b.length c] w0 (fun r w' => ∃ gk : Nat, r = .tuple #[.pointer (some ⟨gk, 0, none⟩), .int .i64 22] ∧ Hp w0 w' [] []) := by
  refine does_of Try.func45 Try.ntmps45 rfl ?_
  change Run _ _ _ _ [.slice AA b.length c, undef, undef, undef, undef, undef, undef, undef, undef, undef, undef, undef, undef, undef] _
  have H := Hp.refl w0
  refine run_seq ?_
  refine run_region ?_
  refine ops_val (ex_assign rfl) ?_
  refine ops_val (ex_assign rfl) ?_
  refine ops_nil ?_
  change Run _ _ _ _ [_, _, _, _, _, _, _, _, _, _, _, _, _, _] _
  refine run_seq ?_
  refine run_seq ?_
  refine run_region ?_
  refine ops_val (ex_move rfl) ?_
  refine ops_val (ex_len_slice Try.underlying26 rfl) ?_
  refine ops_true (ex_gtr rfl rfl) (by omega) ?_
  refine ops_nil ?_
  change Run _ _ _ _ [_, _, _, _, _, _, _, _, _, _, _, _, _, _] _
  refine run_cond_true rfl ?_
  refine run_seq ?_
  refine run_region ?_
  refine ops_newW (ex_call gf84 rfl) (newW_any none [] 0 _ (Rd.none_ _ _) (by decide)) ?_
  intro w1 gr g cap sp hcb hroom hnil Hd
  have H1 := H.call0 Hd
  refine ops_val (ex_build ty102 pl102 rfl rfl) ?_
  refine ops_box rfl rfl H1 ?_
  intro w2 gk H2 hgk
  refine ops_val (ex_assign rfl) ?_
  change Ops _ _ _ _ _ _ [_, _, _, _, _, _, _, _, _, _, _, _, _, _] _
  refine ops_val (ex_assign rfl) ?_
  refine ops_nil ?_
  change Run _ _ _ _ [_, _, _, _, _, _, _, _, _, _, _, _, _, _] _
  refine run_ret ?_
  refine fin_ret2 rfl rfl rfl ?_
  exact ⟨gk, rfl, H2.pick [] (by decide)⟩
set_option maxRecDepth 100000 in
set_option maxHeartbeats 4000000 in
theorem in_ok (AA : Option Addr) (b : List UInt8) (c : Nat) (w0 : World) (hl : b.length ≤ 65536) (hr : Rd w0 AA b.length 1 (u8s b)) :
    Does Try.prog 45 #[.slice AA b.length c] w0 (fun r w' => ∃ gk gr g cap sp, r = .tuple #[.pointer (some ⟨gk, 0, none⟩), .int .i64 0] ∧ b.length ≤ cap ∧ Hp w0 w' [] (vr gk gr g cap sp b 0 0)) := by
  refine does_of Try.func45 Try.ntmps45 rfl ?_
  change Run _ _ _ _ [.slice AA b.length c, undef, undef, undef, undef, undef, undef, undef, undef, undef, undef, undef, undef, undef] _
  have H := Hp.refl w0
  refine run_seq ?_
  refine run_region ?_
  refine ops_val (ex_assign rfl) ?_
  refine ops_val (ex_assign rfl) ?_
  refine ops_nil ?_
  change Run _ _ _ _ [_, _, _, _, _, _, _, _, _, _, _, _, _, _] _
  refine run_seq ?_
  refine run_seq ?_
  refine run_region ?_
  refine ops_val (ex_move rfl) ?_
  refine ops_val (ex_len_slice Try.underlying26 rfl) ?_
  refine ops_false (ex_gtr rfl rfl) (by omega) ?_
  refine ops_nil ?_
  change Run _ _ _ _ [_, _, _, _, _, _, _, _, _, _, _, _, _, _] _
  refine run_cond_false rfl ?_
  refine run_skip ?_
  refine run_seq ?_
  refine run_region ?_
  refine ops_val (ex_move rfl) ?_
  refine ops_newW (ex_call gf84 rfl) (newW_any AA b c _ (hr.to0 H) (by omega)) ?_
  intro w1 gr g cap sp hcb hroom hnil Hd
  have H1 := H.call0 Hd
  refine ops_val (ex_build ty102 pl102 rfl rfl) ?_
  refine ops_box rfl rfl H1 ?_
  intro w2 gk H2 hgk
  change Ops _ _ _ _ _ _ [_, _, _, _, _, _, _, _, _, _, _, _, _, _] _
  refine ops_val (ex_assign rfl) ?_
  refine ops_val (ex_assign rfl) ?_
  refine ops_nil ?_
  change Run _ _ _ _ [_, _, _, _, _, _, _, _, _, _, _, _, _, _] _
  refine run_ret ?_
  refine fin_ret2 rfl rfl rfl ?_
  exact ⟨gk, gr, g, cap, sp, rfl, hcb, H2.pick [2, 0, 1] (by decide)⟩
set_option maxRecDepth 100000 in
set_option maxHeartbeats 4000000 in
theorem command_rd (AA : Option Addr) (b : List UInt8) (c : Nat) (w0 : World) (hr : Rd w0 AA b.length 1 (u8s b)) (hb : b.length ≤ 211106232532900) :
    Does Try.prog 13 #[.slice AA b.length c] w0 (fun r w' => RdRes thcommand b w0 w' r) := by
  refine does_of Try.func13 Try.ntmps13 rfl ?_
  change Run _ _ _ _ [.slice AA b.length c, undef, undef, undef, undef, undef, undef, undef, undef, undef, undef, undef, undef, undef] _
  have H := Hp.refl w0
  refine run_seq ?_
  refine run_region ?_
  refine ops_alloc ty28 H ?_
  intro w1 g1 H1 hg1
  refine ops_val (ex_assign rfl) ?_
  refine ops_nil ?_
  change Run _ _ _ _ [_, _, _, _, _, _, _, _, _, _, _, _, _, _] _
  refine run_seq ?_
  refine run_region ?_
  refine ops_alloc ty28 H1 ?_
  intro w2 g2 H2 hg2
  refine ops_nil ?_
  change Run _ _ _ _ [_, _, _, _, _, _, _, _, _, _, _, _, _, _] _
  refine run_seq ?_
  refine run_seq ?_
  refine run_region ?_
  refine ops_val (ex_move rfl) ?_
  refine ops_val (ex_makeFunc rfl rfl) ?_
  have HX := Hp.old (H2.at (i := 1) rfl)
  have hk := read_any thcommand AA b c g2 28 [.int .i64 0, .int .i64 0, .int .i64 0, .int .i64 0, .int .i64 0, .int .i64 0, .string .empty, .int .i64 0, .int .i64 0, .int .i64 0, .bool false, .int .i64 0, .string .empty, .string .empty, .int .i64 0, .int .i64 0, .int .i64 0, .int .i64 0, .int .i64 0, .int .i64 0, .string .empty, .string .empty, .int .i64 0, .int .i64 0, .slice none 0 0] 44 [.pointer (some ⟨g2, 0, none⟩)] _ HX rfl (hr.to0 H2) (fun h0 a ha hq => by
    simp only [List.mem_singleton] at hq
    have hlt := H2.place (i := 1) rfl
    have := H2.size
    have hc := World.block_lt_of_cell? _ _ (hr.cells a ha 0 _ (u8s_get h0))
    rw [Addr.add_zero'] at hc
    rcases hlt with h1 | h1
    · simp at h1
    · omega) gf44 (fun gp gr gb cb sb w1 hcb hbl HP => ccommand_r gp gr gb cb sb b hcb hbl g2 0 0 0 28 _ w1 HP.here (Nat.zero_le _) (At.self _) (Nat.le_refl _))
  refine ops_call (ex_call gf43 rfl) hk ?_
  rintro _ w3 ⟨rfl, cs2, hl, Hd, hM⟩
  have hsz1 := H2.size
  have hg1 : g1 < w2.heap.size := H2.lt (i := 0) rfl
  have hg2 : g2 < w2.heap.size := H2.lt (i := 1) rfl
  have H3 := (H2.call1 (i := 1) rfl Hd).pick [0, 2] (by decide)
  refine ops_val (ex_assign rfl) ?_
  refine ops_nil ?_
  change Run _ _ _ _ [_, _, _, _, _, _, _, _, _, _, _, _, _, _] _
  refine run_seq ?_
  refine run_region ?_
  refine ops_val (ex_move rfl) ?_
  refine ops_test (ex_neq rfl rfl) (fun hp10 => ?_) (fun hp10 => ?_)
  · have he : errR thcommand b ≠ 0 := by omega
    refine ops_nil ?_
    change Run _ _ _ _ [_, _, _, _, _, _, _, _, _, _, _, _, _, _] _
    refine run_cond_true rfl ?_
    refine run_seq ?_
    refine run_region ?_
    refine ops_val (ex_build ty28 pl28 rfl rfl) ?_
    refine ops_val (ex_move rfl) ?_
    refine ops_store ty28 H3 0 rfl rfl rfl rfl rfl (by first | decide | simp) rfl ?_
    intro w4 H4
    refine ops_val (ex_assign rfl) ?_
    refine ops_nil ?_
    change Run _ _ _ _ [_, _, _, _, _, _, _, _, _, _, _, _, _, _] _
    refine run_ret ?_
    refine fin_cell_tmp rfl ty28 rfl rfl rfl (H4.cells (i := 0) rfl) ?_
    exact ⟨_, rfl, by rw [gotR_bad he]; exact thcommand.zM _ _, H4.pick [] (by decide)⟩
  · have he : errR thcommand b = 0 := by omega
    have hm := hM he
    have HA := H3
    replace H3 := HA.here
    refine ops_nil ?_
    change Run _ _ _ _ [_, _, _, _, _, _, _, _, _, _, _, _, _, _] _
    refine run_cond_false rfl ?_
    refine run_skip ?_
    refine run_seq ?_
    refine run_region ?_
    refine ops_val (ex_loadN ty28 rfl (vs := cs2) hl (H3.cells (i := 1) rfl)) ?_
    refine ops_store ty28 H3 0 rfl rfl rfl rfl hl (by rw [hl]; decide) (thcommand.ones hm) ?_
    intro w4 H4
    have hpu : putAt [.int .i64 0, .int .i64 0, .int .i64 0, .int .i64 0, .int .i64 0, .int .i64 0, .string .empty, .int .i64 0, .int .i64 0, .int .i64 0, .bool false, .int .i64 0, .string .empty, .string .empty, .int .i64 0, .int .i64 0, .int .i64 0, .int .i64 0, .int .i64 0, .int .i64 0, .string .empty, .string .empty, .int .i64 0, .int .i64 0, .slice none 0 0] 0 cs2 = cs2 := putAt_all hl
    rw [hpu] at H4
    refine ops_val (ex_assign rfl) ?_
    refine ops_nil ?_
    change Run _ _ _ _ [_, _, _, _, _, _, _, _, _, _, _, _, _, _] _
    refine run_ret ?_
    refine fin_cell_tmp rfl ty28 rfl rfl hl (H4.cells (i := 0) rfl) ?_
    have hm2 := thcommand.to hm H4 (fun p hp hq => by simp [bl] at hq; have := hp.1; rcases hq with hq | hq <;> omega)
    exact ⟨cs2, by rw [he]; rfl, by rw [(gotR_ok he).1]; exact thcommand.mono hm2 (fun p hp => ⟨by have := hp.1.1; omega, hp.1.2.2.to H4 (by intro hq; simp [bl] at hq; have := hp.1.1; rcases hq with hq | hq <;> omega)⟩), (HA.all H4).pick [] (by decide)⟩
set_option maxRecDepth 100000 in
set_option maxHeartbeats 4000000 in
theorem command_vrd1 (AA : Option Addr) (b : List UInt8) (c : Nat) (w0 : World) (hr : Rd w0 AA b.length 1 (u8s b)) (hb : b.length ≤ 211106232532900) (hl : 65536 < b.length) :
    Does Try.prog 14 #[.slice AA b.length c] w0 (fun r w' => RdRes thcommand b w0 w' r) := by
  refine does_of Try.func14 Try.ntmps14 rfl ?_
  change Run _ _ _ _ [.slice AA b.length c, undef, undef, undef, undef, undef, undef, undef, undef, undef, undef, undef, undef, undef, undef, undef, undef, undef, undef, undef, undef, undef, undef, undef, undef, undef, undef, undef] _
  have H := Hp.refl w0
  have he : errR thcommand b = 22 := errR_long hl
  refine run_seq ?_
  refine run_region ?_
  refine ops_alloc ty28 H ?_
  intro w1 g1 H1 hg1
  refine ops_val (ex_assign rfl) ?_
  refine ops_nil ?_
  change Run _ _ _ _ [_, _, _, _, _, _, _, _, _, _, _, _, _, _, _, _, _, _, _, _, _, _, _, _, _, _, _, _] _
  refine run_seq ?_
  refine run_region ?_
  refine ops_val (ex_move rfl) ?_
  refine ops_call (ex_call gf45 rfl) (in_long AA b c _ hl) ?_
  rintro _ w2 ⟨gk, rfl, Hd⟩
  have H2 := (H1.call0 Hd)
  refine ops_val (ex_move rfl) ?_
  refine ops_val (ex_extract rfl rfl) ?_
  change Ops _ _ _ _ _ _ [_, _, _, _, _, _, _, _, _, _, _, _, _, _, _, _, _, _, _, _, _, _, _, _, _, _, _, _] _
  refine ops_val (ex_extract rfl rfl) ?_
  refine ops_val (ex_assign rfl) ?_
  refine ops_val (ex_assign rfl) ?_
  refine ops_nil ?_
  change Run _ _ _ _ [_, _, _, _, _, _, _, _, _, _, _, _, _, _, _, _, _, _, _, _, _, _, _, _, _, _, _, _] _
  refine run_seq ?_
  refine run_seq ?_
  refine run_region ?_
  refine ops_val (ex_move rfl) ?_
  refine ops_true (ex_neq rfl rfl) (by simp) ?_
  refine ops_nil ?_
  change Run _ _ _ _ [_, _, _, _, _, _, _, _, _, _, _, _, _, _, _, _, _, _, _, _, _, _, _, _, _, _, _, _] _
  refine run_cond_true rfl ?_
  refine run_seq ?_
  refine run_region ?_
  refine ops_val (ex_build ty28 pl28 rfl rfl) ?_
  refine ops_val (ex_move rfl) ?_
  refine ops_store ty28 H2 0 rfl rfl rfl rfl rfl (by first | decide | simp) rfl ?_
  intro w3 H3
  refine ops_val (ex_assign rfl) ?_
  refine ops_nil ?_
  change Run _ _ _ _ [_, _, _, _, _, _, _, _, _, _, _, _, _, _, _, _, _, _, _, _, _, _, _, _, _, _, _, _] _
  refine run_ret ?_
  refine fin_cell_tmp rfl ty28 rfl rfl rfl (H3.cells (i := 0) rfl) ?_
  exact ⟨_, by rw [he]; rfl, by rw [gotR_bad (by rw [he]; decide)]; exact thcommand.zM _ _, H3.pick [] (by decide)⟩
set_option maxRecDepth 100000 in
set_option maxHeartbeats 4000000 in
theorem command_vrd2 (AA : Option Addr) (b : List UInt8) (c : Nat) (w0 : World) (hr : Rd w0 AA b.length 1 (u8s b)) (hb : b.length ≤ 211106232532900) (hl : b.length ≤ 65536) :
    Does Try.prog 14 #[.slice AA b.length c] w0 (fun r w' => RdRes thcommand b w0 w' r) := by
  refine does_of Try.func14 Try.ntmps14 rfl ?_
  change Run _ _ _ _ [.slice AA b.length c, undef, undef, undef, undef, undef, undef, undef, undef, undef, undef, undef, undef, undef, undef, undef, undef, undef, undef, undef, undef, undef, undef, undef, undef, undef, undef, undef] _
  have H := Hp.refl w0
  refine run_seq ?_
  refine run_region ?_
  refine ops_alloc ty28 H ?_
  intro w1 g1 H1 hg1
  refine ops_val (ex_assign rfl) ?_
  refine ops_nil ?_
  change Run _ _ _ _ [_, _, _, _, _, _, _, _, _, _, _, _, _, _, _, _, _, _, _, _, _, _, _, _, _, _, _, _] _
  refine run_seq ?_
  refine run_region ?_
  refine ops_val (ex_move rfl) ?_
  refine ops_call (ex_call gf45 rfl) (in_ok AA b c _ hl (hr.to0 H1)) ?_
  rintro _ w2 ⟨gk, gr, g, cap, sp, rfl, hcb, Hd⟩
  have H2 := (H1.call0 Hd)
  refine ops_val (ex_move rfl) ?_
  refine ops_val (ex_extract rfl rfl) ?_
  change Ops _ _ _ _ _ _ [_, _, _, _, _, _, _, _, _, _, _, _, _, _, _, _, _, _, _, _, _, _, _, _, _, _, _, _] _
  refine ops_val (ex_extract rfl rfl) ?_
  refine ops_val (ex_assign rfl) ?_
  refine ops_val (ex_assign rfl) ?_
  refine ops_nil ?_
  change Run _ _ _ _ [_, _, _, _, _, _, _, _, _, _, _, _, _, _, _, _, _, _, _, _, _, _, _, _, _, _, _, _] _
  refine run_seq ?_
  refine run_seq ?_
  refine run_region ?_
  refine ops_val (ex_move rfl) ?_
  refine ops_false (ex_neq rfl rfl) (by simp) ?_
  refine ops_nil ?_
  change Run _ _ _ _ [_, _, _, _, _, _, _, _, _, _, _, _, _, _, _, _, _, _, _, _, _, _, _, _, _, _, _, _] _
  refine run_cond_false rfl ?_
  refine run_skip ?_
  refine run_seq ?_
  refine run_region ?_
  refine ops_alloc ty28 H2 ?_
  intro w3 gc H3 hgc
  refine ops_nil ?_
  change Run _ _ _ _ [_, _, _, _, _, _, _, _, _, _, _, _, _, _, _, _, _, _, _, _, _, _, _, _, _, _, _, _] _
  refine run_seq ?_
  refine run_region ?_
  refine ops_val (ex_move rfl) ?_
  have HX : Hp w0 w3 [] ((vr gk gr g cap sp b 0 0 ++ [(some gc, 28, [.int .i64 0, .int .i64 0, .int .i64 0, .int .i64 0, .int .i64 0, .int .i64 0, .string .empty, .int .i64 0, .int .i64 0, .int .i64 0, .bool false, .int .i64 0, .string .empty, .string .empty, .int .i64 0, .int .i64 0, .int .i64 0, .int .i64 0, .int .i64 0, .int .i64 0, .string .empty, .string .empty, .int .i64 0, .int .i64 0, .slice none 0 0])]) ++ [(some g1, 28, [.int .i64 0, .int .i64 0, .int .i64 0, .int .i64 0, .int .i64 0, .int .i64 0, .string .empty, .int .i64 0, .int .i64 0, .int .i64 0, .bool false, .int .i64 0, .string .empty, .string .empty, .int .i64 0, .int .i64 0, .int .i64 0, .int .i64 0, .int .i64 0, .int .i64 0, .string .empty, .string .empty, .int .i64 0, .int .i64 0, .slice none 0 0])]) := H3.pick [1, 2, 3, 4, 0] (by decide)
  refine ops_call (ex_call gf41 rfl) (vcommand_R gk gr g cap sp b hcb hl gc 0 0 0 28 _ _ HX.less.here (Nat.zero_le _) (At.self _) (Nat.le_refl _)) ?_
  rintro _ w4 ⟨us, hul, hone, Hd, hM⟩
  obtain ⟨⟨x, i, e⟩, hx⟩ : ∃ y, thcommand.rd b 0 0 = y := ⟨_, rfl⟩
  rw [hx] at Hd hM
  simp only at Hd hM
  have hil : i ≤ b.length := by have := thcommand.le (b := b) (i := 0) (e := 0) (Nat.zero_le _); rw [hx] at this; exact this
  have hpu : putAt [.int .i64 0, .int .i64 0, .int .i64 0, .int .i64 0, .int .i64 0, .int .i64 0, .string .empty, .int .i64 0, .int .i64 0, .int .i64 0, .bool false, .int .i64 0, .string .empty, .string .empty, .int .i64 0, .int .i64 0, .int .i64 0, .int .i64 0, .int .i64 0, .int .i64 0, .string .empty, .string .empty, .int .i64 0, .int .i64 0, .slice none 0 0] 0 us = us := putAt_all hul
  rw [hpu] at Hd hM
  have hg1 : g1 < w3.heap.size := HX.lt (i := 4) rfl
  have hsz := HX.size
  obtain ⟨nn, hnn⟩ : ∃ n, w3.heap.size = n := ⟨_, rfl⟩
  rw [hnn] at hg1 hsz hM
  have HB := HX.front Hd
  have H4 := HB.here
  refine ops_nil ?_
  change Run _ _ _ _ [_, _, _, _, _, _, _, _, _, _, _, _, _, _, _, _, _, _, _, _, _, _, _, _, _, _, _, _] _
  refine run_seq ?_
  refine run_region ?_
  refine ops_val (ex_move rfl) ?_
  refine ops_val (ex_nilCheck rfl) ?_
  refine ops_val (ex_fieldAddr fl102_1 rfl) ?_
  refine ops_val (ex_load ty100 rfl (H4.cell (i := 0) rfl rfl)) ?_
  change Ops _ _ _ _ _ _ [_, _, _, _, _, _, _, _, _, _, _, _, _, _, _, _, _, _, _, _, _, _, _, _, _, _, _, _] _
  refine ops_call_val (ex_call gf46 rfl) (endW_rd gr (hd g) cap b i e _ (rdw_of H4 (j := 1) (k := 2) rfl rfl (by decide) hcb (by omega) hil)) ?_
  intro w5 He
  have H5 := H4.call0 He
  refine ops_val (ex_assign rfl) ?_
  refine ops_nil ?_
  change Run _ _ _ _ [_, _, _, _, _, _, _, _, _, _, _, _, _, _, _, _, _, _, _, _, _, _, _, _, _, _, _, _] _
  refine run_seq ?_
  refine run_seq ?_
  refine run_region ?_
  refine ops_val (ex_move rfl) ?_
  refine ops_test (ex_neq rfl rfl) (fun hp24 => ?_) (fun hp24 => ?_)
  · have he := errR_eq hl hx
    have h0 : errR thcommand b ≠ 0 := by omega
    rw [← he]
    refine ops_nil ?_
    change Run _ _ _ _ [_, _, _, _, _, _, _, _, _, _, _, _, _, _, _, _, _, _, _, _, _, _, _, _, _, _, _, _] _
    refine run_cond_true rfl ?_
    refine run_seq ?_
    refine run_region ?_
    refine ops_val (ex_build ty28 pl28 rfl rfl) ?_
    refine ops_val (ex_move rfl) ?_
    refine ops_store ty28 H5 4 rfl rfl rfl rfl rfl (by decide) rfl ?_
    intro w6 H6
    refine ops_val (ex_assign rfl) ?_
    refine ops_nil ?_
    change Run _ _ _ _ [_, _, _, _, _, _, _, _, _, _, _, _, _, _, _, _, _, _, _, _, _, _, _, _, _, _, _, _] _
    refine run_ret ?_
    refine fin_cell_tmp rfl ty28 rfl rfl rfl (H6.cells (i := 4) rfl) ?_
    exact ⟨_, rfl, by rw [gotR_bad h0]; exact thcommand.zM _ _, (HB.all H6).pick [] (by decide)⟩
  · have he := errR_eq hl hx
    have h0 : (if e = 0 ∧ i < b.length then 24 else e) = 0 := by omega
    have he0 : e = 0 := by split at h0 <;> omega
    have hm := hM he0
    rw [h0] at he
    refine ops_nil ?_
    change Run _ _ _ _ [_, _, _, _, _, _, _, _, _, _, _, _, _, _, _, _, _, _, _, _, _, _, _, _, _, _, _, _] _
    refine run_cond_false rfl ?_
    refine run_skip ?_
    refine run_seq ?_
    refine run_region ?_
    refine ops_val (ex_loadN ty28 rfl (vs := us) hul (H5.cells (i := 3) rfl)) ?_
    refine ops_store ty28 H5 4 rfl rfl rfl rfl hul (by rw [hul]; decide) hone ?_
    intro w6 H6
    have hpu2 : putAt [.int .i64 0, .int .i64 0, .int .i64 0, .int .i64 0, .int .i64 0, .int .i64 0, .string .empty, .int .i64 0, .int .i64 0, .int .i64 0, .bool false, .int .i64 0, .string .empty, .string .empty, .int .i64 0, .int .i64 0, .int .i64 0, .int .i64 0, .int .i64 0, .int .i64 0, .string .empty, .string .empty, .int .i64 0, .int .i64 0, .slice none 0 0] 0 us = us := putAt_all hul
    rw [hpu2] at H6
    refine ops_val (ex_assign rfl) ?_
    refine ops_nil ?_
    change Run _ _ _ _ [_, _, _, _, _, _, _, _, _, _, _, _, _, _, _, _, _, _, _, _, _, _, _, _, _, _, _, _] _
    refine run_ret ?_
    refine fin_cell_tmp rfl ty28 rfl rfl hul (H6.cells (i := 4) rfl) ?_
    have hm2 := thcommand.to hm H6 (fun p hp => by
      intro hq
      have h2 := hp.1
      have h1 := hp.2.1
      rw [bl_append] at hq
      rcases List.mem_append.1 hq with hq | hq
      · exact h1 hq
      · simp [bl] at hq; omega)
    exact ⟨us, by rw [he]; rfl, by rw [(gotR_ok he).1, hx]; exact thcommand.mono hm2 (fun p hp => ⟨by have := hp.1.1; omega, hp.1.2.2.to H6 (by
      intro hq
      have h2 := hp.1.1
      have h1 := hp.1.2.1
      rw [bl_append] at hq
      rcases List.mem_append.1 hq with hq | hq
      · exact h1 hq
      · simp [bl] at hq; omega)⟩), (HB.all H6).pick [] (by decide)⟩
theorem command_vrd (AA : Option Addr) (b : List UInt8) (c : Nat) (w0 : World) (hr : Rd w0 AA b.length 1 (u8s b)) (hb : b.length ≤ 211106232532900) : Does Try.prog 14 #[.slice AA b.length c] w0 (fun r w' => RdRes thcommand b w0 w' r) := by
  rcases Nat.lt_or_ge 65536 b.length with hl | hl
  · exact command_vrd1 AA b c w0 hr hb hl
  · exact command_vrd2 AA b c w0 hr hb hl
set_option maxRecDepth 100000 in
set_option maxHeartbeats 4000000 in
theorem note_rd (AA : Option Addr) (b : List UInt8) (c : Nat) (w0 : World) (hr : Rd w0 AA b.length 1 (u8s b)) (hb : b.length ≤ 211106232532900) :
    Does Try.prog 22 #[.slice AA b.length c] w0 (fun r w' => RdRes thnote b w0 w' r) := by
  refine does_of Try.func22 Try.ntmps22 rfl ?_
  change Run _ _ _ _ [.slice AA b.length c, undef, undef, undef, undef, undef, undef, undef, undef, undef, undef, undef, undef, undef] _
  have H := Hp.refl w0
  refine run_seq ?_
  refine run_region ?_
  refine ops_alloc ty50 H ?_
  intro w1 g1 H1 hg1
  refine ops_val (ex_assign rfl) ?_
  refine ops_nil ?_
  change Run _ _ _ _ [_, _, _, _, _, _, _, _, _, _, _, _, _, _] _
  refine run_seq ?_
  refine run_region ?_
  refine ops_alloc ty50 H1 ?_
  intro w2 g2 H2 hg2
  refine ops_nil ?_
  change Run _ _ _ _ [_, _, _, _, _, _, _, _, _, _, _, _, _, _] _
  refine run_seq ?_
  refine run_seq ?_
  refine run_region ?_
  refine ops_val (ex_move rfl) ?_
  refine ops_val (ex_makeFunc rfl rfl) ?_
  have HX := Hp.old (H2.at (i := 1) rfl)
  have hk := read_any thnote AA b c g2 50 [.int .i64 0, .int .i64 0, .int .i64 0, .int .i64 0, .int .i64 0, .int .i64 0, .int .i64 0, .slice none 0 0, .int .i64 0, .slice none 0 0, .int .i64 0, .string .empty, .int .i64 0, .int .i64 0, .int .i64 0, .int .i64 0] 51 [.pointer (some ⟨g2, 0, none⟩)] _ HX rfl (hr.to0 H2) (fun h0 a ha hq => by
    simp only [List.mem_singleton] at hq
    have hlt := H2.place (i := 1) rfl
    have := H2.size
    have hc := World.block_lt_of_cell? _ _ (hr.cells a ha 0 _ (u8s_get h0))
    rw [Addr.add_zero'] at hc
    rcases hlt with h1 | h1
    · simp at h1
    · omega) gf51 (fun gp gr gb cb sb w1 hcb hbl HP => cnote_r gp gr gb cb sb b hcb hbl g2 0 0 0 50 _ w1 HP.here (Nat.zero_le _) (At.self _) (Nat.le_refl _))
  refine ops_call (ex_call gf43 rfl) hk ?_
  rintro _ w3 ⟨rfl, cs2, hl, Hd, hM⟩
  have hsz1 := H2.size
  have hg1 : g1 < w2.heap.size := H2.lt (i := 0) rfl
  have hg2 : g2 < w2.heap.size := H2.lt (i := 1) rfl
  have H3 := (H2.call1 (i := 1) rfl Hd).pick [0, 2] (by decide)
  refine ops_val (ex_assign rfl) ?_
  refine ops_nil ?_
  change Run _ _ _ _ [_, _, _, _, _, _, _, _, _, _, _, _, _, _] _
  refine run_seq ?_
  refine run_region ?_
  refine ops_val (ex_move rfl) ?_
  refine ops_test (ex_neq rfl rfl) (fun hp10 => ?_) (fun hp10 => ?_)
  · have he : errR thnote b ≠ 0 := by omega
    refine ops_nil ?_
    change Run _ _ _ _ [_, _, _, _, _, _, _, _, _, _, _, _, _, _] _
    refine run_cond_true rfl ?_
    refine run_seq ?_
    refine run_region ?_
    refine ops_val (ex_build ty50 pl50 rfl rfl) ?_
    refine ops_val (ex_move rfl) ?_
    refine ops_store ty50 H3 0 rfl rfl rfl rfl rfl (by first | decide | simp) rfl ?_
    intro w4 H4
    refine ops_val (ex_assign rfl) ?_
    refine ops_nil ?_
    change Run _ _ _ _ [_, _, _, _, _, _, _, _, _, _, _, _, _, _] _
    refine run_ret ?_
    refine fin_cell_tmp rfl ty50 rfl rfl rfl (H4.cells (i := 0) rfl) ?_
    exact ⟨_, rfl, by rw [gotR_bad he]; exact thnote.zM _ _, H4.pick [] (by decide)⟩
  · have he : errR thnote b = 0 := by omega
    have hm := hM he
    have HA := H3
    replace H3 := HA.here
    refine ops_nil ?_
    change Run _ _ _ _ [_, _, _, _, _, _, _, _, _, _, _, _, _, _] _
    refine run_cond_false rfl ?_
    refine run_skip ?_
    refine run_seq ?_
    refine run_region ?_
    refine ops_val (ex_loadN ty50 rfl (vs := cs2) hl (H3.cells (i := 1) rfl)) ?_
    refine ops_store ty50 H3 0 rfl rfl rfl rfl hl (by rw [hl]; decide) (thnote.ones hm) ?_
    intro w4 H4
    have hpu : putAt [.int .i64 0, .int .i64 0, .int .i64 0, .int .i64 0, .int .i64 0, .int .i64 0, .int .i64 0, .slice none 0 0, .int .i64 0, .slice none 0 0, .int .i64 0, .string .empty, .int .i64 0, .int .i64 0, .int .i64 0, .int .i64 0] 0 cs2 = cs2 := putAt_all hl
    rw [hpu] at H4
    refine ops_val (ex_assign rfl) ?_
    refine ops_nil ?_
    change Run _ _ _ _ [_, _, _, _, _, _, _, _, _, _, _, _, _, _] _
    refine run_ret ?_
    refine fin_cell_tmp rfl ty50 rfl rfl hl (H4.cells (i := 0) rfl) ?_
    have hm2 := thnote.to hm H4 (fun p hp hq => by simp [bl] at hq; have := hp.1; rcases hq with hq | hq <;> omega)
    exact ⟨cs2, by rw [he]; rfl, by rw [(gotR_ok he).1]; exact thnote.mono hm2 (fun p hp => ⟨by have := hp.1.1; omega, hp.1.2.2.to H4 (by intro hq; simp [bl] at hq; have := hp.1.1; rcases hq with hq | hq <;> omega)⟩), (HA.all H4).pick [] (by decide)⟩
set_option maxRecDepth 100000 in
set_option maxHeartbeats 4000000 in
theorem note_vrd1 (AA : Option Addr) (b : List UInt8) (c : Nat) (w0 : World) (hr : Rd w0 AA b.length 1 (u8s b)) (hb : b.length ≤ 211106232532900) (hl : 65536 < b.length) :
    Does Try.prog 23 #[.slice AA b.length c] w0 (fun r w' => RdRes thnote b w0 w' r) := by
  refine does_of Try.func23 Try.ntmps23 rfl ?_
  change Run _ _ _ _ [.slice AA b.length c, undef, undef, undef, undef, undef, undef, undef, undef, undef, undef, undef, undef, undef, undef, undef, undef, undef, undef, undef, undef, undef, undef, undef, undef, undef, undef, undef] _
  have H := Hp.refl w0
  have he : errR thnote b = 22 := errR_long hl
  refine run_seq ?_
  refine run_region ?_
  refine ops_alloc ty50 H ?_
  intro w1 g1 H1 hg1
  refine ops_val (ex_assign rfl) ?_
  refine ops_nil ?_
  change Run _ _ _ _ [_, _, _, _, _, _, _, _, _, _, _, _, _, _, _, _, _, _, _, _, _, _, _, _, _, _, _, _] _
  refine run_seq ?_
  refine run_region ?_
  refine ops_val (ex_move rfl) ?_
  refine ops_call (ex_call gf45 rfl) (in_long AA b c _ hl) ?_
  rintro _ w2 ⟨gk, rfl, Hd⟩
  have H2 := (H1.call0 Hd)
  refine ops_val (ex_move rfl) ?_
  refine ops_val (ex_extract rfl rfl) ?_
  change Ops _ _ _ _ _ _ [_, _, _, _, _, _, _, _, _, _, _, _, _, _, _, _, _, _, _, _, _, _, _, _, _, _, _, _] _
  refine ops_val (ex_extract rfl rfl) ?_
  refine ops_val (ex_assign rfl) ?_
  refine ops_val (ex_assign rfl) ?_
  refine ops_nil ?_
  change Run _ _ _ _ [_, _, _, _, _, _, _, _, _, _, _, _, _, _, _, _, _, _, _, _, _, _, _, _, _, _, _, _] _
  refine run_seq ?_
  refine run_seq ?_
  refine run_region ?_
  refine ops_val (ex_move rfl) ?_
  refine ops_true (ex_neq rfl rfl) (by simp) ?_
  refine ops_nil ?_
  change Run _ _ _ _ [_, _, _, _, _, _, _, _, _, _, _, _, _, _, _, _, _, _, _, _, _, _, _, _, _, _, _, _] _
  refine run_cond_true rfl ?_
  refine run_seq ?_
  refine run_region ?_
  refine ops_val (ex_build ty50 pl50 rfl rfl) ?_
  refine ops_val (ex_move rfl) ?_
  refine ops_store ty50 H2 0 rfl rfl rfl rfl rfl (by first | decide | simp) rfl ?_
  intro w3 H3
  refine ops_val (ex_assign rfl) ?_
  refine ops_nil ?_
  change Run _ _ _ _ [_, _, _, _, _, _, _, _, _, _, _, _, _, _, _, _, _, _, _, _, _, _, _, _, _, _, _, _] _
  refine run_ret ?_
  refine fin_cell_tmp rfl ty50 rfl rfl rfl (H3.cells (i := 0) rfl) ?_
  exact ⟨_, by rw [he]; rfl, by rw [gotR_bad (by rw [he]; decide)]; exact thnote.zM _ _, H3.pick [] (by decide)⟩
set_option maxRecDepth 100000 in
set_option maxHeartbeats 4000000 in
theorem note_vrd2 (AA : Option Addr) (b : List UInt8) (c : Nat) (w0 : World) (hr : Rd w0 AA b.length 1 (u8s b)) (hb : b.length ≤ 211106232532900) (hl : b.length ≤ 65536) :
    Does Try.prog 23 #[.slice AA b.length c] w0 (fun r w' => RdRes thnote b w0 w' r) := by
  refine does_of Try.func23 Try.ntmps23 rfl ?_
  change Run _ _ _ _ [.slice AA b.length c, undef, undef, undef, undef, undef, undef, undef, undef, undef, undef, undef, undef, undef, undef, undef, undef, undef, undef, undef, undef, undef, undef, undef, undef, undef, undef, undef] _
  have H := Hp.refl w0
  refine run_seq ?_
  refine run_region ?_
  refine ops_alloc ty50 H ?_
  intro w1 g1 H1 hg1
  refine ops_val (ex_assign rfl) ?_
  refine ops_nil ?_
  change Run _ _ _ _ [_, _, _, _, _, _, _, _, _, _, _, _, _, _, _, _, _, _, _, _, _, _, _, _, _, _, _, _] _
  refine run_seq ?_
  refine run_region ?_
  refine ops_val (ex_move rfl) ?_
  refine ops_call (ex_call gf45 rfl) (in_ok AA b c _ hl (hr.to0 H1)) ?_
  rintro _ w2 ⟨gk, gr, g, cap, sp, rfl, hcb, Hd⟩
  have H2 := (H1.call0 Hd)
  refine ops_val (ex_move rfl) ?_
  refine ops_val (ex_extract rfl rfl) ?_
  change Ops _ _ _ _ _ _ [_, _, _, _, _, _, _, _, _, _, _, _, _, _, _, _, _, _, _, _, _, _, _, _, _, _, _, _] _
  refine ops_val (ex_extract rfl rfl) ?_
  refine ops_val (ex_assign rfl) ?_
  refine ops_val (ex_assign rfl) ?_
  refine ops_nil ?_
  change Run _ _ _ _ [_, _, _, _, _, _, _, _, _, _, _, _, _, _, _, _, _, _, _, _, _, _, _, _, _, _, _, _] _
  refine run_seq ?_
  refine run_seq ?_
  refine run_region ?_
  refine ops_val (ex_move rfl) ?_
  refine ops_false (ex_neq rfl rfl) (by simp) ?_
  refine ops_nil ?_
  change Run _ _ _ _ [_, _, _, _, _, _, _, _, _, _, _, _, _, _, _, _, _, _, _, _, _, _, _, _, _, _, _, _] _
  refine run_cond_false rfl ?_
  refine run_skip ?_
  refine run_seq ?_
  refine run_region ?_
  refine ops_alloc ty50 H2 ?_
  intro w3 gc H3 hgc
  refine ops_nil ?_
  change Run _ _ _ _ [_, _, _, _, _, _, _, _, _, _, _, _, _, _, _, _, _, _, _, _, _, _, _, _, _, _, _, _] _
  refine run_seq ?_
  refine run_region ?_
  refine ops_val (ex_move rfl) ?_
  have HX : Hp w0 w3 [] ((vr gk gr g cap sp b 0 0 ++ [(some gc, 50, [.int .i64 0, .int .i64 0, .int .i64 0, .int .i64 0, .int .i64 0, .int .i64 0, .int .i64 0, .slice none 0 0, .int .i64 0, .slice none 0 0, .int .i64 0, .string .empty, .int .i64 0, .int .i64 0, .int .i64 0, .int .i64 0])]) ++ [(some g1, 50, [.int .i64 0, .int .i64 0, .int .i64 0, .int .i64 0, .int .i64 0, .int .i64 0, .int .i64 0, .slice none 0 0, .int .i64 0, .slice none 0 0, .int .i64 0, .string .empty, .int .i64 0, .int .i64 0, .int .i64 0, .int .i64 0])]) := H3.pick [1, 2, 3, 4, 0] (by decide)
  refine ops_call (ex_call gf50 rfl) (vnote_R gk gr g cap sp b hcb hl gc 0 0 0 50 _ _ HX.less.here (Nat.zero_le _) (At.self _) (Nat.le_refl _)) ?_
  rintro _ w4 ⟨us, hul, hone, Hd, hM⟩
  obtain ⟨⟨x, i, e⟩, hx⟩ : ∃ y, thnote.rd b 0 0 = y := ⟨_, rfl⟩
  rw [hx] at Hd hM
  simp only at Hd hM
  have hil : i ≤ b.length := by have := thnote.le (b := b) (i := 0) (e := 0) (Nat.zero_le _); rw [hx] at this; exact this
  have hpu : putAt [.int .i64 0, .int .i64 0, .int .i64 0, .int .i64 0, .int .i64 0, .int .i64 0, .int .i64 0, .slice none 0 0, .int .i64 0, .slice none 0 0, .int .i64 0, .string .empty, .int .i64 0, .int .i64 0, .int .i64 0, .int .i64 0] 0 us = us := putAt_all hul
  rw [hpu] at Hd hM
  have hg1 : g1 < w3.heap.size := HX.lt (i := 4) rfl
  have hsz := HX.size
  obtain ⟨nn, hnn⟩ : ∃ n, w3.heap.size = n := ⟨_, rfl⟩
  rw [hnn] at hg1 hsz hM
  have HB := HX.front Hd
  have H4 := HB.here
  refine ops_nil ?_
  change Run _ _ _ _ [_, _, _, _, _, _, _, _, _, _, _, _, _, _, _, _, _, _, _, _, _, _, _, _, _, _, _, _] _
  refine run_seq ?_
  refine run_region ?_
  refine ops_val (ex_move rfl) ?_
  refine ops_val (ex_nilCheck rfl) ?_
  refine ops_val (ex_fieldAddr fl102_1 rfl) ?_
  refine ops_val (ex_load ty100 rfl (H4.cell (i := 0) rfl rfl)) ?_
  change Ops _ _ _ _ _ _ [_, _, _, _, _, _, _, _, _, _, _, _, _, _, _, _, _, _, _, _, _, _, _, _, _, _, _, _] _
  refine ops_call_val (ex_call gf46 rfl) (endW_rd gr (hd g) cap b i e _ (rdw_of H4 (j := 1) (k := 2) rfl rfl (by decide) hcb (by omega) hil)) ?_
  intro w5 He
  have H5 := H4.call0 He
  refine ops_val (ex_assign rfl) ?_
  refine ops_nil ?_
  change Run _ _ _ _ [_, _, _, _, _, _, _, _, _, _, _, _, _, _, _, _, _, _, _, _, _, _, _, _, _, _, _, _] _
  refine run_seq ?_
  refine run_seq ?_
  refine run_region ?_
  refine ops_val (ex_move rfl) ?_
  refine ops_test (ex_neq rfl rfl) (fun hp24 => ?_) (fun hp24 => ?_)
  · have he := errR_eq hl hx
    have h0 : errR thnote b ≠ 0 := by omega
    rw [← he]
    refine ops_nil ?_
    change Run _ _ _ _ [_, _, _, _, _, _, _, _, _, _, _, _, _, _, _, _, _, _, _, _, _, _, _, _, _, _, _, _] _
    refine run_cond_true rfl ?_
    refine run_seq ?_
    refine run_region ?_
    refine ops_val (ex_build ty50 pl50 rfl rfl) ?_
    refine ops_val (ex_move rfl) ?_
    refine ops_store ty50 H5 4 rfl rfl rfl rfl rfl (by decide) rfl ?_
    intro w6 H6
    refine ops_val (ex_assign rfl) ?_
    refine ops_nil ?_
    change Run _ _ _ _ [_, _, _, _, _, _, _, _, _, _, _, _, _, _, _, _, _, _, _, _, _, _, _, _, _, _, _, _] _
    refine run_ret ?_
    refine fin_cell_tmp rfl ty50 rfl rfl rfl (H6.cells (i := 4) rfl) ?_
    exact ⟨_, rfl, by rw [gotR_bad h0]; exact thnote.zM _ _, (HB.all H6).pick [] (by decide)⟩
  · have he := errR_eq hl hx
    have h0 : (if e = 0 ∧ i < b.length then 24 else e) = 0 := by omega
    have he0 : e = 0 := by split at h0 <;> omega
    have hm := hM he0
    rw [h0] at he
    refine ops_nil ?_
    change Run _ _ _ _ [_, _, _, _, _, _, _, _, _, _, _, _, _, _, _, _, _, _, _, _, _, _, _, _, _, _, _, _] _
    refine run_cond_false rfl ?_
    refine run_skip ?_
    refine run_seq ?_
    refine run_region ?_
    refine ops_val (ex_loadN ty50 rfl (vs := us) hul (H5.cells (i := 3) rfl)) ?_
    refine ops_store ty50 H5 4 rfl rfl rfl rfl hul (by rw [hul]; decide) hone ?_
    intro w6 H6
    have hpu2 : putAt [.int .i64 0, .int .i64 0, .int .i64 0, .int .i64 0, .int .i64 0, .int .i64 0, .int .i64 0, .slice none 0 0, .int .i64 0, .slice none 0 0, .int .i64 0, .string .empty, .int .i64 0, .int .i64 0, .int .i64 0, .int .i64 0] 0 us = us := putAt_all hul
    rw [hpu2] at H6
    refine ops_val (ex_assign rfl) ?_
    refine ops_nil ?_
    change Run _ _ _ _ [_, _, _, _, _, _, _, _, _, _, _, _, _, _, _, _, _, _, _, _, _, _, _, _, _, _, _, _] _
    refine run_ret ?_
    refine fin_cell_tmp rfl ty50 rfl rfl hul (H6.cells (i := 4) rfl) ?_
    have hm2 := thnote.to hm H6 (fun p hp => by
      intro hq
      have h2 := hp.1
      have h1 := hp.2.1
      rw [bl_append] at hq
      rcases List.mem_append.1 hq with hq | hq
      · exact h1 hq
      · simp [bl] at hq; omega)
    exact ⟨us, by rw [he]; rfl, by rw [(gotR_ok he).1, hx]; exact thnote.mono hm2 (fun p hp => ⟨by have := hp.1.1; omega, hp.1.2.2.to H6 (by
      intro hq
      have h2 := hp.1.1
      have h1 := hp.1.2.1
      rw [bl_append] at hq
      rcases List.mem_append.1 hq with hq | hq
      · exact h1 hq
      · simp [bl] at hq; omega)⟩), (HB.all H6).pick [] (by decide)⟩
theorem note_vrd (AA : Option Addr) (b : List UInt8) (c : Nat) (w0 : World) (hr : Rd w0 AA b.length 1 (u8s b)) (hb : b.length ≤ 211106232532900) : Does Try.prog 23 #[.slice AA b.length c] w0 (fun r w' => RdRes thnote b w0 w' r) := by
  rcases Nat.lt_or_ge 65536 b.length with hl | hl
  · exact note_vrd1 AA b c w0 hr hb hl
  · exact note_vrd2 AA b c w0 hr hb hl
end Go.Proofs.Ytoeobicpdeklaaa
