/- Walks of layer 2, printed by wip/gen/codec.py. -/
import Derived.Test.YtbninklfoogmdaaNrm
import Derived.Test.YtbninklfoogmdaaVs
import Derived.Test.YtbninklfoogmdaaVaJ
namespace Go.Proofs.Ytbninklfoogmdaa
open Go Go.RowKit
set_option linter.unusedVariables false
attribute [local irreducible] Still Ops Does Cd
set_option maxRecDepth 100000 in
set_option maxHeartbeats 4000000 in
theorem place_s (A : Option Addr) (k : Nat) (l : List Mk) (c : Int) (ps : List (List Value)) (w0 : World) (hp : Pl 7 ps) (hr : Rd w0 A l.length 7 ps.flatten) (h2 : All2 MkR ps l) (hn : l.length ≤ 1000000) (hso : mksOk 0 l) :
    Does Try.prog 31 #[.slice A l.length k, .int .i64 c] w0 (fun r w' => ∃ (i : Nat) (f : Bool), r = .tuple #[.int .i64 (i : Int), .bool f] ∧ Found ps (mkCf c) i f ∧ Hp w0 w' [] []) := by
  refine does_of Try.func31 Try.ntmps31 rfl ?_
  change Run _ _ _ _ [.slice A l.length k, .int .i64 c, undef, undef, undef, undef, undef, undef, undef, undef, undef] _
  have H := Hp.refl w0
  have hlen := h2.len
  refine run_seq ?_
  refine run_region ?_
  refine ops_val (ex_assign rfl) ?_
  refine ops_val (ex_assign rfl) ?_
  refine ops_nil ?_
  change Run _ _ _ _ [_, _, _, _, _, _, _, _, _, _, _] _
  refine run_seq ?_
  refine run_region ?_
  refine ops_val (ex_move rfl) ?_
  refine ops_val (ex_move rfl) ?_
  refine ops_call (ex_call gf52 rfl) (bsearchM A k ps l.length hlen 53 c (mkCf c) _ hp (by rw [hlen]; exact hr.to0 H) (by omega) (cmp_mark h2 (rise_mk (mks_rise hso).2 c))) ?_
  rintro _ w1 ⟨i, f, rfl, hfd, Hd⟩
  have H1 := H.callN Hd
  refine ops_val (ex_extract rfl rfl) ?_
  change Ops _ _ _ _ _ _ [_, _, _, _, _, _, _, _, _, _, _] _
  refine ops_val (ex_extract rfl rfl) ?_
  refine ops_val (ex_assign rfl) ?_
  refine ops_val (ex_assign rfl) ?_
  refine ops_nil ?_
  change Run _ _ _ _ [_, _, _, _, _, _, _, _, _, _, _] _
  refine run_ret ?_
  refine fin_ret2 rfl rfl rfl ?_
  exact ⟨i, f, rfl, hfd, H1.noRows⟩
set_option maxRecDepth 100000 in
set_option maxHeartbeats 4000000 in
theorem find_s (A : Option Addr) (k : Nat) (l : List Mk) (c : Int) (ok : Nat → Prop) (w0 : World) (hl : Sl MkR 7 w0 ok A l) (hn : l.length ≤ 1000000) (hso : mksOk 0 l) :
    Does Try.prog 14 #[.slice A l.length k, .int .i64 c] w0 (fun r w' => ∃ (m : Mk) (f : Bool), r = .tuple #[.agg (mkC m).toArray, .bool f] ∧ (f = true → findMk l c = some m) ∧ (f = false → findMk l c = none) ∧ Hp w0 w' [] []) := by
  refine does_of Try.func14 Try.ntmps14 rfl ?_
  refine nR25 ?_
  have H := Hp.refl w0
  obtain ⟨ps, hp, hr, ha, h2⟩ := id hl
  have hlen := h2.len
  refine run_seq ?_
  refine run_region ?_
  refine ops_alloc ty62 H ?_
  intro w1 g1 H1 hg1
  refine ops_val (ex_assign rfl) ?_
  refine ops_nil ?_
  refine nR25 ?_
  refine run_seq ?_
  refine run_seq ?_
  refine run_region ?_
  refine ops_val (ex_move rfl) ?_
  refine ops_call_val (ex_call gf30 rfl) (check_s A k l ok _ (hl.toM H1 k0) (by omega) hso) ?_
  intro w2 Hd
  have H2 := H1.callN Hd
  refine ops_false (ex_neq rfl rfl) (by decide) ?_
  refine ops_nil ?_
  refine nR25 ?_
  refine run_cond_false rfl ?_
  refine run_skip ?_
  refine run_seq ?_
  refine run_region ?_
  refine ops_val (ex_move rfl) ?_
  refine ops_val (ex_move rfl) ?_
  refine ops_call (ex_call gf31 rfl) (place_s A k l c ps _ hp (hr.to0 H2) h2 hn hso) ?_
  rintro _ w3 ⟨i, f, rfl, hfd, Hd⟩
  have H3 := H2.callN Hd
  obtain ⟨hyes, hno⟩ := find_found hfd h2 (mks_rise hso).2
  cases f
  · skip
    refine ops_val (ex_move rfl) ?_
    refine ops_val (ex_extract rfl rfl) ?_
    refine nO25 ?_
    refine ops_val (ex_extract rfl rfl) ?_
    refine ops_val (ex_assign rfl) ?_
    refine ops_val (ex_assign rfl) ?_
    refine ops_nil ?_
    refine nR25 ?_
    refine run_seq ?_
    refine run_seq ?_
    refine run_region ?_
    refine ops_val (ex_move rfl) ?_
    refine ops_val (ex_not rfl) ?_
    refine ops_nil ?_
    refine nR25 ?_
    refine run_cond_true rfl ?_
    refine run_seq ?_
    refine run_region ?_
    refine ops_val (ex_build ty62 pl62 rfl rfl) ?_
    refine ops_store ty62 H3 0 rfl rfl rfl rfl rfl (by first | decide | (simp; done) | simp [putAt]) rfl ?_
    intro w4 H4
    refine ops_val (ex_assign rfl) ?_
    refine ops_nil ?_
    refine nR25 ?_
    refine run_ret ?_
    refine fin_cell_tmp rfl ty62 (cs := mkC ⟨0, 0⟩) rfl rfl rfl (H4.cellsR (i := 0) rfl rfl) ?_
    exact ⟨⟨0, 0⟩, false, rfl, (fun h => by cases h), fun _ => hno rfl, H4.noRows⟩
  · obtain ⟨x, hx, hfx⟩ := hyes rfl
    obtain ⟨p1, hp1, hR⟩ := h2.get hx
    unfold MkR at hR
    subst hR
    obtain ⟨a1, ha1⟩ := hr.some_ (by have := lt_of_get hx; omega)
    subst ha1
    refine ops_val (ex_move rfl) ?_
    refine ops_val (ex_extract rfl rfl) ?_
    refine nO25 ?_
    refine ops_val (ex_extract rfl rfl) ?_
    refine ops_val (ex_assign rfl) ?_
    refine ops_val (ex_assign rfl) ?_
    refine ops_nil ?_
    refine nR25 ?_
    refine run_seq ?_
    refine run_seq ?_
    refine run_region ?_
    refine ops_val (ex_move rfl) ?_
    refine ops_val (ex_not rfl) ?_
    refine ops_nil ?_
    refine nR25 ?_
    refine run_cond_false rfl ?_
    refine run_skip ?_
    refine run_seq ?_
    refine run_region ?_
    refine ops_val (ex_move rfl) ?_
    refine ops_val (ex_move rfl) ?_
    refine ops_val (ex_idx Try.underlying26 ty62 rfl rfl rfl (lt_of_get hx) rfl) ?_
    refine ops_val (ex_loadN ty62 rfl (vs := mkC x) rfl ((hr.to0 H3).elem hp hp1)) ?_
    refine nO25 ?_
    refine ops_store ty62 H3 0 rfl rfl rfl rfl rfl (by first | decide | (simp; done) | simp [putAt]) rfl ?_
    intro w4 H4
    refine ops_val (ex_assign rfl) ?_
    refine ops_nil ?_
    refine nR25 ?_
    refine run_ret ?_
    refine fin_cell_tmp rfl ty62 (cs := mkC x) rfl rfl rfl (H4.cellsR (i := 0) rfl rfl) ?_
    exact ⟨x, true, rfl, fun _ => hfx, (fun h => by cases h), H4.noRows⟩
set_option maxRecDepth 100000 in
set_option maxHeartbeats 4000000 in
theorem table_v (n : Int) (w0 : World) :
    Does Try.prog 10 #[.int .i64 n] w0 (fun r w' => ((n < 1 ∨ 4 < n) → r = .nilFunc) ∧ (n = 1 → r = .func (.func 19) #[] #[]) ∧ (n = 2 → r = .func (.func 20) #[] #[]) ∧ (n = 3 → r = .func (.func 21) #[] #[]) ∧ (n = 4 → r = .func (.func 22) #[] #[]) ∧ Hp w0 w' [] []) := by
  refine does_of Try.func10 Try.ntmps10 rfl ?_
  refine nR12 ?_
  have H := Hp.refl w0
  refine run_seq ?_
  refine run_region ?_
  refine ops_val (ex_assign rfl) ?_
  refine ops_nil ?_
  refine nR12 ?_
  refine run_seq ?_
  refine run_seq ?_
  refine run_region ?_
  refine ops_val (ex_move rfl) ?_
  refine ops_test (ex_lss rfl rfl) (fun hp4 => ?_) (fun hp4 => ?_)
  · skip
    refine ops_val (ex_move rfl) ?_
    refine nO12 ?_
    refine ops_no rfl ?_
    refine ops_no rfl ?_
    refine ops_val (ex_pick_t rfl rfl) ?_
    refine ops_nil ?_
    refine nR12 ?_
    refine run_cond_true rfl ?_
    refine run_seq ?_
    refine run_region ?_
    refine ops_val (ex_assign rfl) ?_
    refine ops_nil ?_
    refine nR12 ?_
    refine run_ret ?_
    refine fin_ret1 rfl rfl ?_
    refine ⟨fun _ => rfl, fun h => by omega, fun h => by omega, fun h => by omega, fun h => by omega, H.noRows⟩
  · skip
    refine ops_val (ex_move rfl) ?_
    refine nO12 ?_
    refine ops_yes rfl ?_
    refine ops_val (ex_move rfl) ?_
    refine ops_yes rfl ?_
    refine ops_test (ex_gtr rfl rfl) (fun hp7 => ?_) (fun hp7 => ?_)
    · skip
      refine ops_val (ex_pick_f rfl rfl) ?_
      refine ops_nil ?_
      refine nR12 ?_
      refine run_cond_true rfl ?_
      refine run_seq ?_
      refine run_region ?_
      refine ops_val (ex_assign rfl) ?_
      refine ops_nil ?_
      refine nR12 ?_
      refine run_ret ?_
      refine fin_ret1 rfl rfl ?_
      refine ⟨fun _ => rfl, fun h => by omega, fun h => by omega, fun h => by omega, fun h => by omega, H.noRows⟩
    · skip
      refine ops_val (ex_pick_f rfl rfl) ?_
      refine ops_nil ?_
      refine nR12 ?_
      refine run_cond_false rfl ?_
      refine run_skip ?_
      refine run_seq ?_
      refine run_region ?_
      refine ops_val (ex_buildA ty69 Try.underlying69 ty52 rfl rfl) ?_
      refine ops_val (ex_move rfl) ?_
      obtain hk | hk | hk | hk : n = 1 ∨ n = 2 ∨ n = 3 ∨ n = 4 := by omega
      · subst hk
        refine ops_val (ex_indexA1 Try.underlying69 ty52 rfl rfl (i := 1) rfl (by decide) rfl) ?_
        refine ops_val (ex_assign rfl) ?_
        refine ops_nil ?_
        refine nR12 ?_
        refine run_ret ?_
        refine fin_ret1 rfl rfl ?_
        refine ⟨fun h => by omega, fun _ => rfl, fun h => by omega, fun h => by omega, fun h => by omega, H.noRows⟩
      · subst hk
        refine ops_val (ex_indexA1 Try.underlying69 ty52 rfl rfl (i := 2) rfl (by decide) rfl) ?_
        refine ops_val (ex_assign rfl) ?_
        refine ops_nil ?_
        refine nR12 ?_
        refine run_ret ?_
        refine fin_ret1 rfl rfl ?_
        refine ⟨fun h => by omega, fun h => by omega, fun _ => rfl, fun h => by omega, fun h => by omega, H.noRows⟩
      · subst hk
        refine ops_val (ex_indexA1 Try.underlying69 ty52 rfl rfl (i := 3) rfl (by decide) rfl) ?_
        refine ops_val (ex_assign rfl) ?_
        refine ops_nil ?_
        refine nR12 ?_
        refine run_ret ?_
        refine fin_ret1 rfl rfl ?_
        refine ⟨fun h => by omega, fun h => by omega, fun h => by omega, fun _ => rfl, fun h => by omega, H.noRows⟩
      · subst hk
        refine ops_val (ex_indexA1 Try.underlying69 ty52 rfl rfl (i := 4) rfl (by decide) rfl) ?_
        refine ops_val (ex_assign rfl) ?_
        refine ops_nil ?_
        refine nR12 ?_
        refine run_ret ?_
        refine fin_ret1 rfl rfl ?_
        refine ⟨fun h => by omega, fun h => by omega, fun h => by omega, fun h => by omega, fun _ => rfl, H.noRows⟩
end Go.Proofs.Ytbninklfoogmdaa
