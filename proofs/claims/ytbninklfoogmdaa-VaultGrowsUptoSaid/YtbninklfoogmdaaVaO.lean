/- Walks of layer 2, printed by wip/gen/codec.py. -/
import Derived.Test.YtbninklfoogmdaaNrm
import Derived.Test.YtbninklfoogmdaaVaN
import Derived.Test.YtbninklfoogmdaaVu
namespace Go.Proofs.Ytbninklfoogmdaa
open Go Go.RowKit
set_option linter.unusedVariables false
attribute [local irreducible] Still Ops Does Cd
set_option maxRecDepth 100000 in
set_option maxHeartbeats 4000000 in
theorem awake_v (w0 : World) :
    Does Try.prog 4 #[] w0 (fun r w' => r = .bool (decide (True)) ∧ Hp w0 w' [] []) := by
  refine does_of Try.func4 Try.ntmps4 rfl ?_
  refine nR27 ?_
  have H := Hp.refl w0
  refine run_seq ?_
  refine run_region ?_
  refine ops_val (ex_assign rfl) ?_
  refine ops_nil ?_
  refine nR27 ?_
  refine run_seq ?_
  refine run_region ?_
  refine ops_val (ex_build ty34 pl34 rfl rfl) ?_
  refine ops_val (ex_build ty48 pl48 rfl rfl) ?_
  refine ops_buildSlice Try.underlying22 ty48 H (cs := [.int .i64 1, .int .i64 1, .int .i64 2, .int .i64 1, .int .i64 0, .int .i64 0, .int .i64 0, .slice none 0 0, .int .i64 0, .slice none 0 0, .int .i64 0, .string ⟨#[]⟩, .int .i64 0, .int .i64 0, .int .i64 0, .int .i64 0]) rfl (by decide) rfl ?_
  intro w1 g1 H1 hg1
  have hl := Sl.row (R := NtR w1 (fun _ => True)) (xs := [awN]) (ok := fun _ => True) H1 (i := 0) (sp := []) (ps := [[.int .i64 1, .int .i64 1, .int .i64 2, .int .i64 1, .int .i64 0, .int .i64 0, .int .i64 0, .slice none 0 0, .int .i64 0, .slice none 0 0, .int .i64 0, .string ⟨#[]⟩, .int .i64 0, .int .i64 0, .int .i64 0, .int .i64 0]]) rfl (Pl.one rfl) (by decide) (All2.one ⟨none, 0, none, 0, rfl, Bs.none _ _, Bs.none _ _⟩) (fun _ _ => trivial)
  refine ops_call (ex_call gf5 rfl) (replay_v _ 1 [awN] _ _ hl (by decide)) ?_
  rintro _ w2 ⟨cs, e, b9, rfl, hbo, hrep, Hd⟩
  obtain ⟨hb9, rfl⟩ : b9 = awB ∧ e = 0 := by
    rcases hrep with ⟨h1, h2, _⟩ | ⟨h1, _⟩
    · rw [awB_eq] at h1; cases h1; exact ⟨rfl, h2⟩
    · rw [awB_eq] at h1; cases h1
  subst hb9
  obtain ⟨A1, k1, A2, k2, A3, k3, rfl, hv1, hv2, hv3⟩ := hbo
  have H2 := H1.callN Hd
  obtain ⟨ps, hp, hr, ha, h2⟩ := id hv1
  obtain ⟨a1, ha1⟩ := hr.some_ (by decide)
  subst ha1
  obtain ⟨p1, hp1, hR⟩ := h2.get (i := 1) (b := awS) rfl
  obtain ⟨C1, q1, C2, q2, C3, q3, rfl, _, _, _⟩ := hR
  have HR := H2.noRows
  replace H2 := HR.here
  refine nO27 ?_
  refine ops_val (ex_move rfl) ?_
  refine ops_val (ex_extract rfl rfl) ?_
  refine ops_val (ex_extract rfl rfl) ?_
  refine ops_alloc ty28 H2 ?_
  intro w3 g3 H3 hg3
  refine nO27 ?_
  refine ops_store ty28 H3 0 rfl rfl rfl rfl rfl (by first | decide | (simp; done) | simp [putAt]) rfl ?_
  intro w4 H4
  refine ops_val (ex_assign rfl) ?_
  refine ops_nil ?_
  refine nR27 ?_
  refine run_seq ?_
  refine run_region ?_
  refine ops_val (ex_move rfl) ?_
  refine ops_true (ex_eql rfl rfl) (rfl) ?_
  refine ops_val (ex_move rfl) ?_
  refine nO27 ?_
  refine ops_yes rfl ?_
  refine ops_val (ex_fieldAddr fl28_0 rfl) ?_
  refine ops_yes rfl ?_
  refine ops_val (ex_load ty24 rfl (H4.cell (i := 0) rfl rfl)) ?_
  refine nO27 ?_
  refine ops_yes rfl ?_
  refine ops_val (ex_len_slice Try.underlying24 rfl) ?_
  refine ops_yes rfl ?_
  refine ops_true (ex_eql rfl rfl) (rfl) ?_
  refine ops_val (ex_pick_t rfl rfl) ?_
  refine ops_val (ex_move rfl) ?_
  refine nO27 ?_
  refine ops_yes rfl ?_
  refine ops_val (ex_fieldAddr fl28_0 rfl) ?_
  refine ops_yes rfl ?_
  refine ops_val (ex_load ty24 rfl (H4.cell (i := 0) rfl rfl)) ?_
  refine nO27 ?_
  refine ops_yes rfl ?_
  refine ops_val (ex_idx Try.underlying24 ty39 rfl rfl (len := 8) (i := 1) rfl (by decide) rfl) ?_
  refine ops_yes rfl ?_
  refine ops_val (ex_fieldAddrA fl39_0 rfl) ?_
  refine nO27 ?_
  refine ops_yes rfl ?_
  refine ops_val (ex_fieldAddrB fl34_0 rfl) ?_
  refine ops_yes rfl ?_
  refine ops_val (ex_load ty3 rfl (((hr.to0 H4).elem hp hp1) 0 _ rfl)) ?_
  refine nO27 ?_
  refine ops_yes rfl ?_
  refine ops_true (ex_eql rfl rfl) (rfl) ?_
  refine ops_val (ex_pick_t rfl rfl) ?_
  refine ops_val (ex_assign rfl) ?_
  refine ops_nil ?_
  refine nR27 ?_
  refine run_ret ?_
  refine fin_ret1 rfl rfl ?_
  exact ⟨bt trivial, (HR.all H4).noRows⟩
end Go.Proofs.Ytbninklfoogmdaa
