/- Walks of layer 2, printed by wip/gen/codec.py. -/
import Derived.Test.YtgkciibfpenjpaaNrm
import Derived.Test.YtgkciibfpenjpaaWlwE
namespace Go.Proofs.Ytgkciibfpenjpaa
open Go Go.RowKit
set_option linter.unusedVariables false
attribute [local irreducible] Still Ops Does Cd
theorem eqIn_func_nil {P : Program} {t : TypeId} {w : World} {p1 p2 : Array TypeId} {v : Bool} (ht : P.underlying t = some (.func p1 p2 v)) {fn : Fn} {a b : Array Value} (d : Nat) : (Op.equalIn (d + 1) t (.func fn a b) .nilFunc).run P w = .ok false w := by
  simp [Op.equalIn, run_underlying ht]
theorem ex_eql_nil_func {P : Program} {l : List Value} {w : World} {t ty t2 : TypeId} {x : Operand} {p1 p2 : Array TypeId} {v : Bool} (ht : P.underlying t = some (.func p1 p2 v)) {fn : Fn} {a b : Array Value} (hx : ev l x = some (.func fn a b)) :
    Ex P l (.binOp .eql t x (.const .nilFunc) t2) ty w (.value (.bool false)) w := ex_eql_of hx rfl rfl rfl (eqIn_func_nil ht)
theorem begin_frame {w' : World} {F : List Ent} {m : Mw} {D : Dk} {W : Wl} {k : Mk} {K : Bk} (h : BOk w' m D W k K []) (hr : W.recs = []) (ha : K.all = []) : BOk w' m D W k K F := by
  exact { h with recs := ⟨h.recs.1, fun i hi => absurd hi (by rw [hr]; simp)⟩, all := ⟨h.all.1, fun i hi => absurd hi (by rw [ha]; simp)⟩ }
namespace Rn
attribute [local irreducible] Cd
set_option maxRecDepth 100000 in
set_option maxHeartbeats 4000000 in
theorem walNil_p (v : Value) (n : Int) (w0 : World) (hv : v.cells = [v].toArray) :
    DoesP Try.prog 7 #[v, .int .i64 n] w0 (fun r w' => r = .bool true ∧ Hp w0 w' [] []) (fun _ _ => False) := by
  refine does_of Try.func7 Try.ntmps7 rfl ?_
  change Run _ _ _ _ [v, .int .i64 n, undef, undef, undef, undef, undef, undef, undef, undef, undef, undef, undef, undef, undef, undef, undef, undef, undef, undef, undef, undef, undef, undef, undef, undef, undef, undef, undef, undef, undef, undef, undef, undef, undef, undef, undef, undef, undef, undef, undef, undef, undef, undef, undef, undef, undef, undef, undef, undef, undef, undef, undef, undef, undef, undef, undef, undef, undef, undef, undef, undef, undef, undef, undef, undef, undef, undef, undef, undef, undef, undef, undef, undef, undef, undef, undef, undef, undef, undef, undef, undef, undef, undef, undef, undef, undef, undef, undef, undef, undef, undef, undef, undef, undef, undef, undef, undef, undef, undef, undef, undef, undef, undef, undef, undef, undef, undef, undef, undef, undef] _
  have H := Hp.refl w0
  refine run_seq ?_
  refine run_region rfl (fun _ _ h => h) ?_
  refine ops_alloc ty4 H ?_
  intro w1 g4 H1 hg4
  refine ops_nil ?_
  change Run _ _ _ _ [_, _, _, _, _, _, _, _, _, _, _, _, _, _, _, _, _, _, _, _, _, _, _, _, _, _, _, _, _, _, _, _, _, _, _, _, _, _, _, _, _, _, _, _, _, _, _, _, _, _, _, _, _, _, _, _, _, _, _, _, _, _, _, _, _, _, _, _, _, _, _, _, _, _, _, _, _, _, _, _, _, _, _, _, _, _, _, _, _, _, _, _, _, _, _, _, _, _, _, _, _, _, _, _, _, _, _, _, _, _, _] _
  refine run_seq ?_
  refine run_region rfl (fun _ _ h => h) ?_
  refine ops_val (ex_assign rfl) ?_
  refine ops_nil ?_
  change Run _ _ _ _ [_, _, _, _, _, _, _, _, _, _, _, _, _, _, _, _, _, _, _, _, _, _, _, _, _, _, _, _, _, _, _, _, _, _, _, _, _, _, _, _, _, _, _, _, _, _, _, _, _, _, _, _, _, _, _, _, _, _, _, _, _, _, _, _, _, _, _, _, _, _, _, _, _, _, _, _, _, _, _, _, _, _, _, _, _, _, _, _, _, _, _, _, _, _, _, _, _, _, _, _, _, _, _, _, _, _, _, _, _, _, _] _
  refine run_seq ?_
  refine run_region rfl (fun _ _ h => h) ?_
  refine ops_call (ex_call gf18 rfl) ((Rn.open_nil _).d (fun _ _ h => h)) ?_
  rintro r w2 ⟨hr, Hc⟩
  rw [hr]
  have H2 := H1.call0 Hc
  refine ops_val (ex_move rfl) ?_
  refine ops_val (ex_extract rfl rfl) ?_
  refine ops_val (ex_extract rfl rfl) ?_
  refine nO111 ?_
  refine ops_val (ex_assign rfl) ?_
  refine ops_val (ex_assign rfl) ?_
  refine ops_nil ?_
  change Run _ _ _ _ [_, _, _, _, _, _, _, _, _, _, _, _, _, _, _, _, _, _, _, _, _, _, _, _, _, _, _, _, _, _, _, _, _, _, _, _, _, _, _, _, _, _, _, _, _, _, _, _, _, _, _, _, _, _, _, _, _, _, _, _, _, _, _, _, _, _, _, _, _, _, _, _, _, _, _, _, _, _, _, _, _, _, _, _, _, _, _, _, _, _, _, _, _, _, _, _, _, _, _, _, _, _, _, _, _, _, _, _, _, _, _] _
  refine run_seq ?_
  refine run_region rfl (fun _ _ h => h) ?_
  refine ops_call (ex_call gf24 rfl) (newD_any 64 _ (by decide) (by decide)) ?_
  rintro _ w3 ⟨gd, gk, rfl, Hd⟩
  have H3 := (H2.call0 Hd).pick [0, 1, 2, 3] (by decide)
  refine ops_val (ex_move rfl) ?_
  refine ops_val (ex_extract rfl rfl) ?_
  refine ops_val (ex_extract rfl rfl) ?_
  refine nO111 ?_
  refine ops_val (ex_assign rfl) ?_
  refine ops_val (ex_assign rfl) ?_
  refine ops_nil ?_
  change Run _ _ _ _ [_, _, _, _, _, _, _, _, _, _, _, _, _, _, _, _, _, _, _, _, _, _, _, _, _, _, _, _, _, _, _, _, _, _, _, _, _, _, _, _, _, _, _, _, _, _, _, _, _, _, _, _, _, _, _, _, _, _, _, _, _, _, _, _, _, _, _, _, _, _, _, _, _, _, _, _, _, _, _, _, _, _, _, _, _, _, _, _, _, _, _, _, _, _, _, _, _, _, _, _, _, _, _, _, _, _, _, _, _, _, _] _
  refine run_seq ?_
  refine run_region rfl (fun _ _ h => h) ?_
  refine ops_val (ex_move rfl) ?_
  refine ops_call (ex_call gf25 rfl) (crash_any gd gk none 0 [] (⟨List.replicate 64 zero64, [], false, 0, 64, []⟩ : Dk) _ (H3.pick [1, 2, 3] (by decide)).here (newOk (by decide) (by decide)) none [] 0 ⟨rfl, fun _ h => (by cases h), fun _ => rfl⟩ (fun h => absurd h (by decide)) (by decide)) ?_
  rintro r w4 ⟨hr, gw, cw, sp, hok, Hd⟩
  rw [hr]
  have H4 := (H3.callr [1, 2, 3] rfl Hd).pick [0, 4, 5, 6] (by decide)
  refine ops_nil ?_
  change Run _ _ _ _ [_, _, _, _, _, _, _, _, _, _, _, _, _, _, _, _, _, _, _, _, _, _, _, _, _, _, _, _, _, _, _, _, _, _, _, _, _, _, _, _, _, _, _, _, _, _, _, _, _, _, _, _, _, _, _, _, _, _, _, _, _, _, _, _, _, _, _, _, _, _, _, _, _, _, _, _, _, _, _, _, _, _, _, _, _, _, _, _, _, _, _, _, _, _, _, _, _, _, _, _, _, _, _, _, _, _, _, _, _, _, _] _
  refine run_seq ?_
  refine run_region rfl (fun _ _ h => h) ?_
  refine ops_val (ex_move rfl) ?_
  refine ops_call (ex_call gf18 rfl) ((Rn.open_down gd gk gw cw sp _ _ (H4.pick [1, 2, 3] (by decide)).here rfl).d (fun _ _ h => h)) ?_
  rintro r w5 ⟨hr, Hc⟩
  rw [hr]
  have H5 := (H4.callr [1, 2, 3] rfl Hc).pick [0] (by decide)
  refine ops_val (ex_move rfl) ?_
  refine ops_val (ex_extract rfl rfl) ?_
  refine nO111 ?_
  refine ops_val (ex_extract rfl rfl) ?_
  refine ops_val (ex_assign rfl) ?_
  refine ops_val (ex_assign rfl) ?_
  refine ops_nil ?_
  change Run _ _ _ _ [_, _, _, _, _, _, _, _, _, _, _, _, _, _, _, _, _, _, _, _, _, _, _, _, _, _, _, _, _, _, _, _, _, _, _, _, _, _, _, _, _, _, _, _, _, _, _, _, _, _, _, _, _, _, _, _, _, _, _, _, _, _, _, _, _, _, _, _, _, _, _, _, _, _, _, _, _, _, _, _, _, _, _, _, _, _, _, _, _, _, _, _, _, _, _, _, _, _, _, _, _, _, _, _, _, _, _, _, _, _, _] _
  refine run_seq ?_
  refine run_region rfl (fun _ _ h => h) ?_
  refine ops_val (ex_move rfl) ?_
  refine ops_call (ex_call gf20 rfl) (all_any (.pointer none) _ rfl) ?_
  rintro r w6 ⟨gb, hr, Hc⟩
  rw [hr]
  have H6 := H5.call0 Hc
  refine ops_val (ex_assign rfl) ?_
  refine ops_nil ?_
  change Run _ _ _ _ [_, _, _, _, _, _, _, _, _, _, _, _, _, _, _, _, _, _, _, _, _, _, _, _, _, _, _, _, _, _, _, _, _, _, _, _, _, _, _, _, _, _, _, _, _, _, _, _, _, _, _, _, _, _, _, _, _, _, _, _, _, _, _, _, _, _, _, _, _, _, _, _, _, _, _, _, _, _, _, _, _, _, _, _, _, _, _, _, _, _, _, _, _, _, _, _, _, _, _, _, _, _, _, _, _, _, _, _, _, _, _] _
  refine run_seq ?_
  refine run_seq ?_
  refine run_region rfl (fun _ _ h => h) ?_
  refine ops_call_val (ex_call gf10 rfl) (awake_any _) ?_
  intro w7 Hd
  have H7 := (H6.call0 Hd).pick [0, 1] (by decide)
  refine ops_val (ex_not rfl) ?_
  refine ops_val (ex_move rfl) ?_
  refine nO111 ?_
  refine ops_yes rfl ?_
  refine ops_val (ex_move rfl) ?_
  refine ops_yes rfl ?_
  refine ops_val (ex_eql_nil_func Try.underlying46 rfl) ?_
  refine ops_val (ex_pick_f rfl rfl) ?_
  refine ops_nil ?_
  change Run _ _ _ _ [_, _, _, _, _, _, _, _, _, _, _, _, _, _, _, _, _, _, _, _, _, _, _, _, _, _, _, _, _, _, _, _, _, _, _, _, _, _, _, _, _, _, _, _, _, _, _, _, _, _, _, _, _, _, _, _, _, _, _, _, _, _, _, _, _, _, _, _, _, _, _, _, _, _, _, _, _, _, _, _, _, _, _, _, _, _, _, _, _, _, _, _, _, _, _, _, _, _, _, _, _, _, _, _, _, _, _, _, _, _, _] _
  refine run_cond_false rfl ?_
  refine run_skip ?_
  refine run_seq ?_
  refine run_seq ?_
  refine run_region rfl (fun _ _ h => h) ?_
  refine ops_val (ex_move rfl) ?_
  refine ops_nil ?_
  change Run _ _ _ _ [_, _, _, _, _, _, _, _, _, _, _, _, _, _, _, _, _, _, _, _, _, _, _, _, _, _, _, _, _, _, _, _, _, _, _, _, _, _, _, _, _, _, _, _, _, _, _, _, _, _, _, _, _, _, _, _, _, _, _, _, _, _, _, _, _, _, _, _, _, _, _, _, _, _, _, _, _, _, _, _, _, _, _, _, _, _, _, _, _, _, _, _, _, _, _, _, _, _, _, _, _, _, _, _, _, _, _, _, _, _, _] _
  refine run_block ?_
  have hgbl := H7.lt (i := 1) rfl
  have hg4l := H7.lt (i := 0) rfl
  have hne : g4 ≠ gb := H7.ne (i := 0) (j := 1) rfl rfl (by decide)
  have hsz := H7.size
  have hcb := H7.cell (i := 1) (o := 0) rfl rfl
  refine run_range (ps := [38, 39]) (gf := 53) (lb := [.pointer (some ⟨gb, 0, none⟩)]) (N := 0) (B := [gb]) Try.func7 rfl gf53
    (It := fun _ _ _ _ => False)
    (fun w1 Hw1 => all_iter_nil gb w1 _ (cell_toW hcb Hw1 (by simp)))
    (fun x hx => by rw [List.mem_singleton.1 hx]; exact hgbl)
    (fun k W1 O => O = bl [((some g4, 4, [.bool false]) : Ent)] ∧ Hp w0 W1 [] [((some g4, 4, [.bool false]) : Ent)])
    (fun _ _ => False) (fun _ _ => False)
    (bl [((some g4, 4, [.bool false]) : Ent)])
    (fun x hx hx2 => by
      have hx3 : x = g4 := by simpa [bl] using hx
      subst hx3
      exact hne (List.mem_singleton.1 hx2))
    (fun l args => l)
    (fun k W1 O hJ b hb => by
      obtain ⟨rfl, HJ⟩ := hJ
      exact bl_cells HJ b hb)
    (fun k W1 O W2 L hJ hL HL hnl => by
      obtain ⟨h1, HJ⟩ := hJ
      exact ⟨h1, HJ.loop HL hnl (by omega)⟩)
    (fun _ _ _ _ hx => hx.elim)
    (fun k W1 args G hI => hI.elim)
    ⟨rfl, H7.pick [0, 1] (by decide) |>.pick [0] (by decide)⟩ ?_ ?_ ?_ (fun _ _ _ hx => hx.elim) (fun _ _ _ hx => hx.elim)
  · rintro k W1 args G L hI
    exact hI.elim
  · rintro k W1 O args G L hk hJ hI
    exact hI.elim
  · rintro Dm W1 O ⟨rfl, HJ⟩ hDm hDl
    have HJ0 := HJ.here
    refine run_nil (blk_normal ?_)
    refine run_seq ?_
    refine run_region rfl (fun _ _ h => h) ?_
    refine ops_call (ex_call gf9 rfl) (begin_any 64 _ (by decide) (by decide)) ?_
    rintro r w8 ⟨m, gb2, hr, hbk0, Hc⟩
    rw [hr]
    have H8 := HJ0.call0 Hc  
    have hbk : BOk w8 m (⟨List.replicate 64 zero64, [], false, 0, 64, []⟩ : Dk) (Wl.anew 0 0 0) (⟨gb2, none, 0, [], []⟩ : Mk) (⟨[], 0, 0, -1, 0⟩ : Bk) [((some g4, 4, [.bool false]) : Ent)] := begin_frame hbk0 rfl rfl
    refine ops_val (ex_assign rfl) ?_
    refine ops_nil ?_
    change Run _ _ _ _ [_, _, _, _, _, _, _, _, _, _, _, _, _, _, _, _, _, _, _, _, _, _, _, _, _, _, _, _, _, _, _, _, _, _, _, _, _, _, _, _, _, _, _, _, _, _, _, _, _, _, _, _, _, _, _, _, _, _, _, _, _, _, _, _, _, _, _, _, _, _, _, _, _, _, _, _, _, _, _, _, _, _, _, _, _, _, _, _, _, _, _, _, _, _, _, _, _, _, _, _, _, _, _, _, _, _, _, _, _, _, _] _
    refine run_seq ?_
    refine run_seq ?_
    refine run_region rfl (fun _ _ h => h) ?_
    refine ops_val (ex_move rfl) ?_
    refine ops_false (ex_eql_nil_ptr Try.underlying24 rfl) (by simp) ?_
    refine ops_val (ex_move rfl) ?_
    refine nO111 ?_
    refine ops_yes rfl ?_
    refine ops_val (ex_move rfl) ?_
    refine ops_yes rfl ?_
    refine ops_test (ex_neq rfl rfl) (fun hp45 => ?_) (fun hp45 => ?_)
    · have hn0 : n ≠ 0 := by omega
      refine ops_yes rfl ?_
      refine ops_val (ex_move rfl) ?_
      refine nO111 ?_
      refine ops_yes rfl ?_
      refine ops_val (ex_move rfl) ?_
      refine ops_yes rfl ?_
      refine ops_val (ex_nilCheck rfl) ?_
      refine nO111 ?_
      refine ops_yes rfl ?_
      refine ops_val (ex_fieldAddr fl31_1 rfl) ?_
      refine ops_yes rfl ?_
      refine ops_val (ex_load ty28 rfl (H8.cell (i := 7) rfl rfl)) ?_
      refine nO111 ?_
      refine ops_yes rfl ?_
      refine ops_val (ex_move rfl) ?_
      refine ops_yes rfl ?_
      refine ops_call (ex_call gf13 rfl) (cut_all n m (⟨List.replicate 64 zero64, [], false, 0, 64, []⟩ : Dk) (Wl.anew 0 0 0) _ (H8.pick [1, 2, 3, 4, 5, 6] (by decide)).here hbk.ok (by decide) (by decide) (by decide)) ?_
      rintro r w9 hcut
      obtain ⟨hr, hwp⟩ : r = .int .i64 1 ∧ WPost _ w9 _ m (⟨List.replicate 64 zero64, [], false, 0, 64, []⟩ : Dk) (Wl.anew 0 0 0) := by
        rcases hcut with ⟨_, h2, h3⟩ | ⟨gone, h2, h3, _⟩
        · exact ⟨h2, h3⟩
        · have h3 : gone ≤ 0 := h3
          have h2 : n = (((0 : Nat) + gone : Nat) : Int) := h2
          omega
      rw [hr]
      obtain ⟨q1, hxsq1, hbk2, Hc⟩ := hbk.call (lt_pick H8 [7, 8, 0] rfl) hwp
      replace hbk : BOk w9 (mv m q1) (⟨List.replicate 64 zero64, [], false, 0, 64, []⟩ : Dk) (Wl.anew 0 0 0) (⟨gb2, none, 0, [], []⟩ : Mk) (⟨[], 0, 0, -1, 0⟩ : Bk) [((some g4, 4, [.bool false]) : Ent)] := hbk2
      have H9 := (H8.callr [1, 2, 3, 4, 5, 6] rfl Hc).pick [0, 9, 10, 11, 12, 13, 14, 7, 8] (by decide)
      refine nO111 ?_
      refine ops_yes rfl ?_
      refine ops_false (ex_neq rfl rfl) (by decide) ?_
      refine ops_yes rfl ?_
      refine ops_val (ex_pick_t rfl rfl) ?_
      refine ops_val (ex_pick_f rfl rfl) ?_
      refine ops_val (ex_move rfl) ?_
      refine nO111 ?_
      refine ops_yes rfl ?_
      refine ops_val (ex_move rfl) ?_
      refine ops_yes rfl ?_
      refine ops_val (ex_nilCheck rfl) ?_
      refine nO111 ?_
      refine ops_yes rfl ?_
      refine ops_val (ex_fieldAddr fl31_1 rfl) ?_
      refine ops_yes rfl ?_
      refine ops_val (ex_load ty28 rfl (H9.cell (i := 7) rfl rfl)) ?_
      refine nO111 ?_
      refine ops_yes rfl ?_
      refine ops_call (ex_call gf13 rfl) (cut_all 0 (mv m q1) (⟨List.replicate 64 zero64, [], false, 0, 64, []⟩ : Dk) (Wl.anew 0 0 0) _ (H9.pick [1, 2, 3, 4, 5, 6] (by decide)).here hbk.ok (by decide) (by decide) (by decide)) ?_
      rintro r w10 hcut
      obtain ⟨x, D1, W1, hr, hx0, hwp⟩ : ∃ x D' W', r = .int .i64 x ∧ x = 0 ∧ WPost _ w10 _ (mv m q1) D' W' := by
        rcases hcut with ⟨h1, _⟩ | ⟨gone, h2, h3, x, D', W', h4, h5, h6⟩
        · have h1 : (0 : Int) < ((0 : Nat) : Int) ∨ (((0 : Nat) + 0 : Nat) : Int) < 0 := h1
          omega
        · exact ⟨x, D', W', h4, (sc_law (Lg.empty0 (n := 64) (by decide)) rfl rfl rfl h3 (by decide) (by decide) (by decide) h5).1, h6⟩
      rw [hr, hx0]
      obtain ⟨q2, hxsq2, hbk2, Hc⟩ := hbk.call (lt_pick H9 [7, 8, 0] rfl) hwp
      replace hbk : BOk w10 (mv m q2) D1 W1 (⟨gb2, none, 0, [], []⟩ : Mk) (⟨[], 0, 0, -1, 0⟩ : Bk) [((some g4, 4, [.bool false]) : Ent)] := hbk2
      have H10 := (H9.callr [1, 2, 3, 4, 5, 6] rfl Hc).pick [0, 9, 10, 11, 12, 13, 14, 7, 8] (by decide)
      refine ops_yes rfl ?_
      refine ops_false (ex_neq rfl rfl) (by decide) ?_
      refine ops_val (ex_pick_f rfl rfl) ?_
      refine ops_nil ?_
      change Run _ _ _ _ [_, _, _, _, _, _, _, _, _, _, _, _, _, _, _, _, _, _, _, _, _, _, _, _, _, _, _, _, _, _, _, _, _, _, _, _, _, _, _, _, _, _, _, _, _, _, _, _, _, _, _, _, _, _, _, _, _, _, _, _, _, _, _, _, _, _, _, _, _, _, _, _, _, _, _, _, _, _, _, _, _, _, _, _, _, _, _, _, _, _, _, _, _, _, _, _, _, _, _, _, _, _, _, _, _, _, _, _, _, _, _] _
      refine run_cond_false rfl ?_
      refine run_skip ?_
      refine run_seq ?_
      refine run_region rfl (fun _ _ h => h) ?_
      refine ops_val (ex_move rfl) ?_
      refine ops_true (ex_eql_nil_ptr Try.underlying28 rfl) (rfl) ?_
      refine ops_val (ex_move rfl) ?_
      refine nO111 ?_
      refine ops_yes rfl ?_
      refine ops_val (ex_move rfl) ?_
      refine ops_yes rfl ?_
      refine ops_true (ex_eql rfl rfl) (by decide) ?_
      refine ops_val (ex_pick_t rfl rfl) ?_
      refine ops_val (ex_move rfl) ?_
      refine nO111 ?_
      refine ops_yes rfl ?_
      refine ops_val (ex_move rfl) ?_
      refine ops_yes rfl ?_
      refine ops_true (ex_eql_nil_ptr Try.underlying28 rfl) (rfl) ?_
      refine ops_val (ex_pick_t rfl rfl) ?_
      refine ops_val (ex_move rfl) ?_
      refine nO111 ?_
      refine ops_yes rfl ?_
      refine ops_val (ex_move rfl) ?_
      refine ops_yes rfl ?_
      refine ops_true (ex_eql rfl rfl) (by decide) ?_
      refine ops_val (ex_pick_t rfl rfl) ?_
      refine ops_val (ex_move rfl) ?_
      refine nO111 ?_
      refine ops_yes rfl ?_
      refine ops_val (ex_move rfl) ?_
      refine ops_yes rfl ?_
      refine ops_val (ex_move rfl) ?_
      refine nO111 ?_
      refine ops_yes rfl ?_
      refine ops_call_val (ex_call gf11 rfl) (append_nil v _ hv) ?_
      intro w11 Hd
      have H11 := (H10.call0 Hd).pick [0] (by decide)
      refine ops_yes rfl ?_
      refine ops_true (ex_eql rfl rfl) (by decide) ?_
      refine ops_val (ex_pick_t rfl rfl) ?_
      refine ops_val (ex_move rfl) ?_
      refine nO111 ?_
      refine ops_yes rfl ?_
      refine ops_val (ex_move rfl) ?_
      refine ops_yes rfl ?_
      refine ops_call_val (ex_call gf16 rfl) (syncW_nil _) ?_
      intro w12 Hd
      have H12 := (H11.call0 Hd).pick [0] (by decide)
      refine nO111 ?_
      refine ops_yes rfl ?_
      refine ops_true (ex_eql rfl rfl) (by decide) ?_
      refine ops_val (ex_pick_t rfl rfl) ?_
      refine ops_val (ex_move rfl) ?_
      refine nO111 ?_
      refine ops_yes rfl ?_
      refine ops_val (ex_move rfl) ?_
      refine ops_yes rfl ?_
      refine ops_val (ex_move rfl) ?_
      refine nO111 ?_
      refine ops_yes rfl ?_
      refine ops_call_val (ex_call gf13 rfl) (cutW_nil n _) ?_
      intro w13 Hd
      have H13 := (H12.call0 Hd).pick [0] (by decide)
      refine ops_yes rfl ?_
      refine ops_true (ex_eql rfl rfl) (by decide) ?_
      refine ops_val (ex_pick_t rfl rfl) ?_
      refine ops_val (ex_move rfl) ?_
      refine nO111 ?_
      refine ops_yes rfl ?_
      refine ops_val (ex_move rfl) ?_
      refine ops_yes rfl ?_
      refine ops_call_eq (ex_call gf19 rfl) (first_nil _) ?_
      refine nO111 ?_
      refine ops_yes rfl ?_
      refine ops_true (ex_eql rfl rfl) (by decide) ?_
      refine ops_val (ex_pick_t rfl rfl) ?_
      refine ops_val (ex_move rfl) ?_
      refine nO111 ?_
      refine ops_yes rfl ?_
      refine ops_val (ex_move rfl) ?_
      refine ops_yes rfl ?_
      refine ops_call_eq (ex_call gf15 rfl) (next_nil _) ?_
      refine nO111 ?_
      refine ops_yes rfl ?_
      refine ops_true (ex_eql rfl rfl) (by decide) ?_
      refine ops_val (ex_pick_t rfl rfl) ?_
      refine ops_val (ex_move rfl) ?_
      refine nO111 ?_
      refine ops_yes rfl ?_
      refine ops_val (ex_move rfl) ?_
      refine ops_yes rfl ?_
      refine ops_call_val (ex_call gf17 rfl) ((Rn.records_nil _).d (fun _ _ h => h)) ?_
      intro w14 Hd
      have H14 := (H13.call0 Hd).pick [0] (by decide)
      refine nO111 ?_
      refine ops_yes rfl ?_
      refine ops_val (ex_len_slice Try.underlying29 rfl) ?_
      refine ops_yes rfl ?_
      refine ops_true (ex_eql rfl rfl) (by decide) ?_
      refine ops_val (ex_pick_t rfl rfl) ?_
      refine ops_store1 ty4 H14 0 rfl rfl rfl rfl (by decide) rfl ?_
      intro w15 H15
      refine ops_nil ?_
      change Run _ _ _ _ [_, _, _, _, _, _, _, _, _, _, _, _, _, _, _, _, _, _, _, _, _, _, _, _, _, _, _, _, _, _, _, _, _, _, _, _, _, _, _, _, _, _, _, _, _, _, _, _, _, _, _, _, _, _, _, _, _, _, _, _, _, _, _, _, _, _, _, _, _, _, _, _, _, _, _, _, _, _, _, _, _, _, _, _, _, _, _, _, _, _, _, _, _, _, _, _, _, _, _, _, _, _, _, _, _, _, _, _, _, _, _] _
      refine run_ret ?_
      have hDz : w15.heap[Dm]? = some (.deferred (some [])) := (H15.frame Dm (Array.getElem?_eq_some_iff.1 hDm).1 (fun hx => by obtain ⟨arr, T, z, hh⟩ := bl_cells HJ Dm hx; rw [hDm] at hh; cases hh)).trans hDm
      have H8 : Hp w0 w15 [] _ := (HJ.callr [0] rfl H15).pick [1] (by decide)
      exact ⟨Dm, _, rfl, run_takeDeferred hDz, _, results_cell1 rfl ty4 rfl ((H8.loop (Hp.putO (.deferred none) hDz) (notc hDz) (by omega)).cell (i := 0) (o := 0) rfl rfl), rfl, (H8.loop (Hp.putO (.deferred none) hDz) (notc hDz) (by omega)).pick [] (by decide)⟩
    · have hn0 : n = 0 := by omega
      refine ops_yes rfl ?_
      refine ops_val (ex_move rfl) ?_
      refine nO111 ?_
      refine ops_no rfl ?_
      refine ops_no rfl ?_
      refine nO111 ?_
      refine ops_no rfl ?_
      refine ops_no rfl ?_
      refine nO111 ?_
      refine ops_no rfl ?_
      refine ops_no rfl ?_
      refine nO111 ?_
      refine ops_no rfl ?_
      refine ops_yes rfl ?_
      refine ops_val (ex_pick_f rfl rfl) ?_
      refine ops_val (ex_pick_f rfl rfl) ?_
      refine ops_val (ex_move rfl) ?_
      refine nO111 ?_
      refine ops_yes rfl ?_
      refine ops_val (ex_move rfl) ?_
      refine ops_yes rfl ?_
      refine ops_val (ex_nilCheck rfl) ?_
      refine nO111 ?_
      refine ops_yes rfl ?_
      refine ops_val (ex_fieldAddr fl31_1 rfl) ?_
      refine ops_yes rfl ?_
      refine ops_val (ex_load ty28 rfl (H8.cell (i := 7) rfl rfl)) ?_
      refine nO111 ?_
      refine ops_yes rfl ?_
      refine ops_call (ex_call gf13 rfl) (cut_all 0 m (⟨List.replicate 64 zero64, [], false, 0, 64, []⟩ : Dk) (Wl.anew 0 0 0) _ (H8.pick [1, 2, 3, 4, 5, 6] (by decide)).here hbk.ok (by decide) (by decide) (by decide)) ?_
      rintro r w9 hcut
      obtain ⟨x, D1, W1, hr, hx0, hwp⟩ : ∃ x D' W', r = .int .i64 x ∧ x = 0 ∧ WPost _ w9 _ m D' W' := by
        rcases hcut with ⟨h1, _⟩ | ⟨gone, h2, h3, x, D', W', h4, h5, h6⟩
        · have h1 : (0 : Int) < ((0 : Nat) : Int) ∨ (((0 : Nat) + 0 : Nat) : Int) < 0 := h1
          omega
        · exact ⟨x, D', W', h4, (sc_law (Lg.empty0 (n := 64) (by decide)) rfl rfl rfl h3 (by decide) (by decide) (by decide) h5).1, h6⟩
      rw [hr, hx0]
      obtain ⟨q2, hxsq2, hbk2, Hc⟩ := hbk.call (lt_pick H8 [7, 8, 0] rfl) hwp
      replace hbk : BOk w9 (mv m q2) D1 W1 (⟨gb2, none, 0, [], []⟩ : Mk) (⟨[], 0, 0, -1, 0⟩ : Bk) [((some g4, 4, [.bool false]) : Ent)] := hbk2
      have H9 := (H8.callr [1, 2, 3, 4, 5, 6] rfl Hc).pick [0, 9, 10, 11, 12, 13, 14, 7, 8] (by decide)
      refine ops_yes rfl ?_
      refine ops_false (ex_neq rfl rfl) (by decide) ?_
      refine ops_val (ex_pick_f rfl rfl) ?_
      refine ops_nil ?_
      change Run _ _ _ _ [_, _, _, _, _, _, _, _, _, _, _, _, _, _, _, _, _, _, _, _, _, _, _, _, _, _, _, _, _, _, _, _, _, _, _, _, _, _, _, _, _, _, _, _, _, _, _, _, _, _, _, _, _, _, _, _, _, _, _, _, _, _, _, _, _, _, _, _, _, _, _, _, _, _, _, _, _, _, _, _, _, _, _, _, _, _, _, _, _, _, _, _, _, _, _, _, _, _, _, _, _, _, _, _, _, _, _, _, _, _, _] _
      refine run_cond_false rfl ?_
      refine run_skip ?_
      refine run_seq ?_
      refine run_region rfl (fun _ _ h => h) ?_
      refine ops_val (ex_move rfl) ?_
      refine ops_true (ex_eql_nil_ptr Try.underlying28 rfl) (rfl) ?_
      refine ops_val (ex_move rfl) ?_
      refine nO111 ?_
      refine ops_yes rfl ?_
      refine ops_val (ex_move rfl) ?_
      refine ops_yes rfl ?_
      refine ops_true (ex_eql rfl rfl) (by decide) ?_
      refine ops_val (ex_pick_t rfl rfl) ?_
      refine ops_val (ex_move rfl) ?_
      refine nO111 ?_
      refine ops_yes rfl ?_
      refine ops_val (ex_move rfl) ?_
      refine ops_yes rfl ?_
      refine ops_true (ex_eql_nil_ptr Try.underlying28 rfl) (rfl) ?_
      refine ops_val (ex_pick_t rfl rfl) ?_
      refine ops_val (ex_move rfl) ?_
      refine nO111 ?_
      refine ops_yes rfl ?_
      refine ops_val (ex_move rfl) ?_
      refine ops_yes rfl ?_
      refine ops_true (ex_eql rfl rfl) (by decide) ?_
      refine ops_val (ex_pick_t rfl rfl) ?_
      refine ops_val (ex_move rfl) ?_
      refine nO111 ?_
      refine ops_yes rfl ?_
      refine ops_val (ex_move rfl) ?_
      refine ops_yes rfl ?_
      refine ops_val (ex_move rfl) ?_
      refine nO111 ?_
      refine ops_yes rfl ?_
      refine ops_call_val (ex_call gf11 rfl) (append_nil v _ hv) ?_
      intro w10 Hd
      have H10 := (H9.call0 Hd).pick [0] (by decide)
      refine ops_yes rfl ?_
      refine ops_true (ex_eql rfl rfl) (by decide) ?_
      refine ops_val (ex_pick_t rfl rfl) ?_
      refine ops_val (ex_move rfl) ?_
      refine nO111 ?_
      refine ops_yes rfl ?_
      refine ops_val (ex_move rfl) ?_
      refine ops_yes rfl ?_
      refine ops_call_val (ex_call gf16 rfl) (syncW_nil _) ?_
      intro w11 Hd
      have H11 := (H10.call0 Hd).pick [0] (by decide)
      refine nO111 ?_
      refine ops_yes rfl ?_
      refine ops_true (ex_eql rfl rfl) (by decide) ?_
      refine ops_val (ex_pick_t rfl rfl) ?_
      refine ops_val (ex_move rfl) ?_
      refine nO111 ?_
      refine ops_yes rfl ?_
      refine ops_val (ex_move rfl) ?_
      refine ops_yes rfl ?_
      refine ops_val (ex_move rfl) ?_
      refine nO111 ?_
      refine ops_yes rfl ?_
      refine ops_call_val (ex_call gf13 rfl) (cutW_nil n _) ?_
      intro w12 Hd
      have H12 := (H11.call0 Hd).pick [0] (by decide)
      refine ops_yes rfl ?_
      refine ops_true (ex_eql rfl rfl) (by decide) ?_
      refine ops_val (ex_pick_t rfl rfl) ?_
      refine ops_val (ex_move rfl) ?_
      refine nO111 ?_
      refine ops_yes rfl ?_
      refine ops_val (ex_move rfl) ?_
      refine ops_yes rfl ?_
      refine ops_call_eq (ex_call gf19 rfl) (first_nil _) ?_
      refine nO111 ?_
      refine ops_yes rfl ?_
      refine ops_true (ex_eql rfl rfl) (by decide) ?_
      refine ops_val (ex_pick_t rfl rfl) ?_
      refine ops_val (ex_move rfl) ?_
      refine nO111 ?_
      refine ops_yes rfl ?_
      refine ops_val (ex_move rfl) ?_
      refine ops_yes rfl ?_
      refine ops_call_eq (ex_call gf15 rfl) (next_nil _) ?_
      refine nO111 ?_
      refine ops_yes rfl ?_
      refine ops_true (ex_eql rfl rfl) (by decide) ?_
      refine ops_val (ex_pick_t rfl rfl) ?_
      refine ops_val (ex_move rfl) ?_
      refine nO111 ?_
      refine ops_yes rfl ?_
      refine ops_val (ex_move rfl) ?_
      refine ops_yes rfl ?_
      refine ops_call_val (ex_call gf17 rfl) ((Rn.records_nil _).d (fun _ _ h => h)) ?_
      intro w13 Hd
      have H13 := (H12.call0 Hd).pick [0] (by decide)
      refine nO111 ?_
      refine ops_yes rfl ?_
      refine ops_val (ex_len_slice Try.underlying29 rfl) ?_
      refine ops_yes rfl ?_
      refine ops_true (ex_eql rfl rfl) (by decide) ?_
      refine ops_val (ex_pick_t rfl rfl) ?_
      refine ops_store1 ty4 H13 0 rfl rfl rfl rfl (by decide) rfl ?_
      intro w14 H14
      refine ops_nil ?_
      change Run _ _ _ _ [_, _, _, _, _, _, _, _, _, _, _, _, _, _, _, _, _, _, _, _, _, _, _, _, _, _, _, _, _, _, _, _, _, _, _, _, _, _, _, _, _, _, _, _, _, _, _, _, _, _, _, _, _, _, _, _, _, _, _, _, _, _, _, _, _, _, _, _, _, _, _, _, _, _, _, _, _, _, _, _, _, _, _, _, _, _, _, _, _, _, _, _, _, _, _, _, _, _, _, _, _, _, _, _, _, _, _, _, _, _, _] _
      refine run_ret ?_
      have hDz : w14.heap[Dm]? = some (.deferred (some [])) := (H14.frame Dm (Array.getElem?_eq_some_iff.1 hDm).1 (fun hx => by obtain ⟨arr, T, z, hh⟩ := bl_cells HJ Dm hx; rw [hDm] at hh; cases hh)).trans hDm
      have H8 : Hp w0 w14 [] _ := (HJ.callr [0] rfl H14).pick [1] (by decide)
      exact ⟨Dm, _, rfl, run_takeDeferred hDz, _, results_cell1 rfl ty4 rfl ((H8.loop (Hp.putO (.deferred none) hDz) (notc hDz) (by omega)).cell (i := 0) (o := 0) rfl rfl), rfl, (H8.loop (Hp.putO (.deferred none) hDz) (notc hDz) (by omega)).pick [] (by decide)⟩
end Rn
theorem walNil_any (v : Value) (n : Int) (w0 : World) (hv : v.cells = [v].toArray) : Does Try.prog 7 #[v, .int .i64 n] w0 (fun r w' => r = .bool true ∧ Hp w0 w' [] []) := (Rn.walNil_p v n w0 hv).d (fun _ _ h => h)
end Go.Proofs.Ytgkciibfpenjpaa
