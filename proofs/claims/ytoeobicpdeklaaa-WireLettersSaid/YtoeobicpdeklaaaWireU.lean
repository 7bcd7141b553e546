/- Walks of layer 2, printed by wip/gen/codec.py. -/
import Derived.Test.YtoeobicpdeklaaaGet
import Derived.Test.YtoeobicpdeklaaaWireH
namespace Go.Proofs.Ytoeobicpdeklaaa
open Go Go.RowKit
set_option linter.unusedVariables false
attribute [local irreducible] Still Ops Does Cd
theorem set_bytes {w : World} {x : List Fv} {vs : List Value} {i : Nat} {s : List UInt8} {B : Option Addr} {c : Nat} (h : FPs w (fun _ => True) x vs) (hx : x[i]? = some (.bytes s)) (hr : Rd w B s.length 1 (u8s s)) : FPs w (fun _ => True) x (vs.set i (.slice B s.length c)) := by
  refine ⟨by rw [List.length_set, h.len], fun j hj => ?_⟩
  obtain ⟨v, h1, h2⟩ := h.each j hj
  rw [List.getElem?_set]
  by_cases hij : i = j
  · subst hij
    rw [if_pos rfl, if_pos (by rw [h.len]; exact hj)]
    refine ⟨_, rfl, ?_⟩
    rw [List.getElem?_eq_getElem hj] at hx
    simp only [Option.some.injEq] at hx
    rw [hx]
    exact ⟨B, c, rfl, hr, fun _ _ _ => trivial⟩
  · rw [if_neg hij]
    exact ⟨v, h1, h2⟩
set_option maxRecDepth 100000 in
set_option maxHeartbeats 4000000 in
theorem copyCommand_any (x : List Fv) (cells : List Value) (w0 : World) (hM : thcommand.M w0 (fun _ => True) x cells) (hsh : Short x) :
    Does Try.prog 11 #[.agg cells.toArray] w0 (fun r w' => ∃ cells', r = .agg cells'.toArray ∧ thcommand.M w' (fun _ => True) x cells' ∧ Hp w0 w' [] []) := by
  refine does_of Try.func11 Try.ntmps11 rfl ?_
  change Run _ _ _ _ [.agg cells.toArray, undef, undef, undef, undef, undef, undef, undef] _
  have H := Hp.refl w0
  have hlen : cells.length = 25 := thcommand.len hM
  obtain ⟨s, B, c, hx, hv, hr, _⟩ := get_bytes hM 24 rfl
  have hs := hsh.get hx
  refine run_seq ?_
  refine run_region ?_
  refine ops_box rfl rfl H ?_
  intro w1 g1 H1 hg1
  refine ops_alloc ty28 H1 ?_
  intro w2 g2 H2 hg2
  refine ops_nil ?_
  change Run _ _ _ _ [_, _, _, _, _, _, _, _] _
  refine run_seq ?_
  refine run_region ?_
  refine ops_val (ex_fieldAddr fl28_13 rfl) ?_
  refine ops_val (ex_load ty26 rfl (H2.cell (i := 0) rfl hv)) ?_
  have HN0 := H2.nil 5
  refine ops_append Try.underlying26 ty5 (by decide) HN0 2 (g := none) (xs := []) (sp := []) rfl rfl rfl (by decide) (by decide) (fun _ => rfl) rfl (hr.to0 HN0) (u8s_one' s) (by omega) (by omega) (by decide) ?_
  intro w3 gA cA sA H3 hcA hmA hgA
  rw [Nat.zero_add] at *
  refine ops_val (ex_fieldAddr fl28_13 rfl) ?_
  change Ops _ _ _ _ _ _ [_, _, _, _, _, _, _, _] _
  refine ops_store1 ty26 H3 0 rfl rfl rfl rfl (by rw [hlen]; decide) rfl ?_
  intro w4 H4
  refine ops_nil ?_
  change Run _ _ _ _ [_, _, _, _, _, _, _, _] _
  refine run_seq ?_
  refine run_region ?_
  refine ops_val (ex_loadN ty28 rfl (vs := cells.set 24 (.slice (hd gA) (0 + s.length) cA)) (by rw [List.length_set]; exact hlen) (H4.cells (i := 0) rfl)) ?_
  have hone : (cells.set 24 (.slice (hd gA) (0 + s.length) cA)).all (·.oneCell') = true := by
    rw [List.all_eq_true]
    intro v hv
    rcases List.mem_or_eq_of_mem_set hv with hv | hv
    · exact List.all_eq_true.1 (thcommand.ones hM) v hv
    · rw [hv]; rfl
  refine ops_store ty28 H4 1 rfl rfl rfl rfl (by rw [List.length_set]; exact hlen) (by rw [List.length_set, hlen]; decide) hone ?_
  intro w5 H5
  have hpu := putAt_all (cs := [.int .i64 0, .int .i64 0, .int .i64 0, .int .i64 0, .int .i64 0, .int .i64 0, .string .empty, .int .i64 0, .int .i64 0, .int .i64 0, .bool false, .int .i64 0, .string .empty, .string .empty, .int .i64 0, .int .i64 0, .int .i64 0, .int .i64 0, .int .i64 0, .int .i64 0, .string .empty, .string .empty, .int .i64 0, .int .i64 0, .slice none 0 0]) (us := cells.set 24 (.slice (hd gA) (0 + s.length) cA)) (by rw [List.length_set, hlen]; rfl)
  rw [hpu] at H5
  refine ops_nil ?_
  change Run _ _ _ _ [_, _, _, _, _, _, _, _] _
  refine run_ret ?_
  refine fin_cell rfl ty28 rfl (by rw [List.length_set]; exact hlen) (H5.cells (i := 1) rfl) ?_
  have HF := H5.pick [2] (by decide)
  have hM1 := thcommand.to hM H5 (fun _ _ => by simp)
  exact ⟨_, rfl, ⟨hM.1, by rw [Nat.zero_add]; exact set_bytes (FPs.mono hM1.2 (fun _ _ => trivial)) hx (H5.rd (i := 2) (o := gA) (xs := u8s s) (sp := sA) rfl (u8s_length1 s) (by decide))⟩, H5.pick [] (by decide)⟩
@[reducible] def thcommand_ks : List Kd := [.int, .int, .int, .int, .int, .int, .text, .int, .int, .int, .flag, .int, .text, .text, .int, .int, .int, .int, .int, .int, .text, .text, .int, .int, .bytes]
set_option maxRecDepth 100000 in
set_option maxHeartbeats 4000000 in
theorem awake3_any (w0 : World) :
    Does Try.prog 15 #[] w0 (fun r w' => r = .bool true ∧ Hp w0 w' [] []) := by
  refine does_of Try.func15 Try.ntmps15 rfl ?_
  change Run _ _ _ _ [undef, undef, undef, undef, undef, undef, undef, undef, undef, undef, undef, undef, undef, undef, undef] _
  have H := Hp.refl w0
  obtain ⟨hz1, hz2⟩ := zero_all thcommand_ks W0 rfl (by decide)
  change (wAll (thcommand.fl thcommand.z) W0).long = false at hz1
  change (wAll (thcommand.fl thcommand.z) W0).out.length = 25 at hz2
  obtain ⟨he1, he2⟩ := errOf_ok hz1
  refine run_seq ?_
  refine run_region ?_
  refine ops_val (ex_assign rfl) ?_
  refine ops_nil ?_
  change Run _ _ _ _ [_, _, _, _, _, _, _, _, _, _, _, _, _, _, _] _
  refine run_seq ?_
  refine run_region ?_
  refine ops_val (ex_build ty28 pl28 rfl rfl) ?_
  refine ops_call_wr (ex_call gf10 rfl) (command_wr thcommand.z thcommand.zs _ (thcommand.zM _ _)) ?_
  intro w1 g cap sp q1 q2 q3 q4 Hd
  rw [he1, he2] at *
  rw [hz2] at *
  have H1 := H.call0 Hd
  refine ops_val (ex_move rfl) ?_
  refine ops_val (ex_extract rfl rfl) ?_
  change Ops _ _ _ _ _ _ [_, _, _, _, _, _, _, _, _, _, _, _, _, _, _] _
  refine ops_val (ex_extract rfl rfl) ?_
  refine ops_val (ex_assign rfl) ?_
  refine ops_val (ex_assign rfl) ?_
  refine ops_nil ?_
  change Run _ _ _ _ [_, _, _, _, _, _, _, _, _, _, _, _, _, _, _] _
  refine run_seq ?_
  refine run_region ?_
  refine ops_val (ex_move rfl) ?_
  refine ops_true (ex_eql rfl rfl) (rfl) ?_
  refine ops_val (ex_move rfl) ?_
  change Ops _ _ _ _ _ _ [_, _, _, _, _, _, _, _, _, _, _, _, _, _, _] _
  refine ops_yes rfl ?_
  refine ops_val (ex_move rfl) ?_
  refine ops_yes rfl ?_
  refine ops_val (ex_len_slice Try.underlying26 rfl) ?_
  change Ops _ _ _ _ _ _ [_, _, _, _, _, _, _, _, _, _, _, _, _, _, _] _
  refine ops_yes rfl ?_
  refine ops_true (ex_eql rfl rfl) (rfl) ?_
  refine ops_val (ex_pick_t rfl rfl) ?_
  refine ops_val (ex_assign rfl) ?_
  refine ops_nil ?_
  change Run _ _ _ _ [_, _, _, _, _, _, _, _, _, _, _, _, _, _, _] _
  refine run_ret ?_
  refine fin_ret1 rfl rfl ?_
  exact ⟨rfl, H1.pick [] (by decide)⟩
end Go.Proofs.Ytoeobicpdeklaaa
