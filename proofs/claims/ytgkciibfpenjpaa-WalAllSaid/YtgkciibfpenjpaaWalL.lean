/- Walks of layer 2, printed by wip/gen/codec.py. -/
import Derived.Test.YtgkciibfpenjpaaNrm
import Derived.Test.YtgkciibfpenjpaaWalK
namespace Go.Proofs.Ytgkciibfpenjpaa
open Go Go.RowKit
set_option linter.unusedVariables false
attribute [local irreducible] Still Ops Does Cd
/-! ### Which heading holds -/
def hzero : List Value := [.int .u64 (0 : Int), .int .i64 (0 : Int), .int .i64 (0 : Int), .int .i64 (0 : Int)]
def better (p : Nat × List Value) (b : Blk) : Nat × List Value := if rd8 b = rd8 (b.drop 56) ∧ p.1 < rd8 b then (rd8 b, headV b) else p
def bestH (D : Dk) : Nat → Nat × List Value
  | 0 => (0, hzero)
  | i + 1 => better (bestH D i) (D.show i)
theorem best_head (D : Dk) : ∀ i, ∃ a b c, (bestH D i).2 = [.int .u64 ((bestH D i).1 : Int), a, b, c]
  | 0 => ⟨_, _, _, rfl⟩
  | i + 1 => by
    show ∃ a b c, (better (bestH D i) (D.show i)).2 = [.int .u64 ((better (bestH D i) (D.show i)).1 : Int), a, b, c]
    unfold better
    split
    · exact ⟨_, _, _, rfl⟩
    · exact best_head D i
theorem best_yes {D : Dk} {i : Nat} (h1 : rd8 (D.show i) = rd8 ((D.show i).drop 56)) (h2 : (bestH D i).1 < rd8 (D.show i)) : (bestH D (i + 1)).2 = headV (D.show i) := by
  show (better (bestH D i) (D.show i)).2 = _
  unfold better
  rw [if_pos ⟨h1, h2⟩]
theorem best_no {D : Dk} {i : Nat} (h : ¬ (rd8 (D.show i) = rd8 ((D.show i).drop 56) ∧ (bestH D i).1 < rd8 (D.show i))) : (bestH D (i + 1)).2 = (bestH D i).2 := by
  show (better (bestH D i) (D.show i)).2 = _
  unfold better
  rw [if_neg h]
/-- A log that was just opened: nothing is read yet. -/
@[reducible] def Wl.anew (t f s : Nat) : Wl := ⟨false, t, f, [], [], s, 0⟩
theorem anew_ok {w : World} {gd gk : Nat} {gw : Option Nat} {cw : Nat} {sp : List Value} {D : Dk} (hD : DOk D gw cw sp) (hsize : 64 ≤ D.kept.length) {gv t f s : Nat} (ht : t ≤ 2 ^ 60) (hf : f ≤ 2 ^ 60) (hs : s < D.kept.length - 2) : WOk w ⟨gd, gk, gw, cw, sp, gv, none, 0, [], [], none, 0, []⟩ D (Wl.anew t f s) :=
  ⟨hD, Lsw.nil _ _, Nat.le_refl _, Nat.zero_le _, fun _ => rfl, rfl, Nat.le_refl _, Nat.zero_le _, fun _ => rfl, Nat.zero_le _, fun _ hx => (by cases hx), hsize, hs, fun _ hx => (by cases hx), hf, ht, by show used [] ≤ _; simp [used], Nat.zero_le _⟩
theorem pl58 : placesOf Try.prog 58 = some [(0, 1), (1, 1), (2, 1), (3, 1), (4, 1), (5, 1), (6, 1), (7, 1), (8, 1)] := by kernel_rfl
set_option maxRecDepth 100000 in
set_option maxHeartbeats 4000000 in
theorem openX_ret (g2 g3 : Nat) (w0 : World) : CallsDIn (FR none) 0 Try.prog 49 #[.pointer (some ⟨g2, 0, none⟩), .pointer (some ⟨g3, 0, none⟩)] .returning w0 fun e u1 w' => ∃ r, e = .returned r ∧ u1 = .returning ∧ w' = w0 := by
  have hz := recovers (k := 49) (w := w0) (R := fun _ w' => w' = w0) Try.func49 Try.ntmps49 rfl (.inl ⟨rfl, rfl, rfl⟩) (args := [.pointer (some ⟨g2, 0, none⟩), .pointer (some ⟨g3, 0, none⟩)]) rfl ?_
  · exact hz
  -- does_of Try 49 Try 49
  refine nR16 ?_
  refine run_seq ?_
  refine run_region ?_
  refine ops_val (ex_move rfl) ?_
  refine ops_val (ex_neq_nilIface_none Try.underlying20 ⟨_, rfl⟩ rfl) ?_
  refine ops_nil ?_
  refine nR16 ?_
  refine run_cond_false rfl ?_
  refine run_skip ?_
  refine run_nil ?_
  refine fin_end0 rfl ?_
  exact rfl
namespace Rn
attribute [local irreducible] Cd
set_option maxRecDepth 100000 in
set_option maxHeartbeats 4000000 in
theorem open_nil (w0 : World) :
    DoesP Try.prog 18 #[.pointer none] w0 (fun r w' => r = .tuple #[.pointer none, .int .i64 2] ∧ Hp w0 w' [] []) (fun _ _ => False) := by
  refine does_ofD Try.func18 Try.ntmps18 rfl ?_
  change Run _ _ _ _ [.pointer none, undef, undef, undef, undef, undef, undef, undef, undef, undef, undef, undef, undef, undef, undef, undef, undef, undef, undef, undef, undef, undef, undef, undef, undef, undef, undef, undef, undef, undef, undef, undef, undef, undef, undef, undef, undef, undef, undef, undef, undef, undef, undef, undef, undef, undef, undef, undef, undef, undef, undef, undef, undef, undef, undef, undef, undef, undef, undef, undef, undef, undef, undef, undef, undef, undef, undef, undef, undef] _
  have H := Hp.refl w0
  refine run_seq ?_
  refine run_region rfl (fun _ _ h => h) ?_
  refine ops_alloc ty28 H ?_
  intro w1 g2 H1 hg2
  refine ops_alloc ty32 H1 ?_
  intro w2 g3 H2 hg3
  refine ops_nil ?_
  change Run _ _ _ _ [_, _, _, _, _, _, _, _, _, _, _, _, _, _, _, _, _, _, _, _, _, _, _, _, _, _, _, _, _, _, _, _, _, _, _, _, _, _, _, _, _, _, _, _, _, _, _, _, _, _, _, _, _, _, _, _, _, _, _, _, _, _, _, _, _, _, _, _, _] _
  refine run_seq ?_
  refine run_seq ?_
  refine run_region rfl (fun _ _ h => h) ?_
  refine ops_val (ex_move rfl) ?_
  refine ops_true (ex_eql_nil_ptr Try.underlying27 rfl) (rfl) ?_
  refine ops_nil ?_
  change Run _ _ _ _ [_, _, _, _, _, _, _, _, _, _, _, _, _, _, _, _, _, _, _, _, _, _, _, _, _, _, _, _, _, _, _, _, _, _, _, _, _, _, _, _, _, _, _, _, _, _, _, _, _, _, _, _, _, _, _, _, _, _, _, _, _, _, _, _, _, _, _, _, _] _
  refine run_cond_true rfl ?_
  refine run_seq ?_
  refine run_region rfl (fun _ _ h => h) ?_
  refine ops_store1 ty28 H2 0 rfl rfl rfl rfl (by first | decide | simp) rfl ?_
  intro w3 H3
  refine ops_store1 ty32 H3 1 rfl rfl rfl rfl (by first | decide | simp) rfl ?_
  intro w4 H4
  refine ops_nil ?_
  change Run _ _ _ _ [_, _, _, _, _, _, _, _, _, _, _, _, _, _, _, _, _, _, _, _, _, _, _, _, _, _, _, _, _, _, _, _, _, _, _, _, _, _, _, _, _, _, _, _, _, _, _, _, _, _, _, _, _, _, _, _, _, _, _, _, _, _, _, _, _, _, _, _, _] _
  refine run_ret ?_
  refine finD_ret (results_cell2 rfl ty28 ty32 rfl rfl (H4.cell (i := 0) rfl rfl) (H4.cell (i := 1) rfl rfl)) ⟨rfl, H4.pick [] (by decide)⟩
set_option maxRecDepth 100000 in
set_option maxHeartbeats 4000000 in
theorem open_down (gd gk : Nat) (gw : Option Nat) (cw : Nat) (sp : List Value) (D : Dk) (w0 : World) (H0 : Hp w0 w0 (bl (dRows gd gk gw cw sp D)) (dRows gd gk gw cw sp D)) (hdn : D.down = true) :
    DoesP Try.prog 18 #[.pointer (some ⟨gd, 0, none⟩)] w0 (fun r w' => r = .tuple #[.pointer none, .int .i64 40] ∧ Hp w0 w' (bl (dRows gd gk gw cw sp D)) (dRows gd gk gw cw sp D)) (fun _ _ => False) := by
  refine does_ofD Try.func18 Try.ntmps18 rfl ?_
  change Run _ _ _ _ [.pointer (some ⟨gd, 0, none⟩), undef, undef, undef, undef, undef, undef, undef, undef, undef, undef, undef, undef, undef, undef, undef, undef, undef, undef, undef, undef, undef, undef, undef, undef, undef, undef, undef, undef, undef, undef, undef, undef, undef, undef, undef, undef, undef, undef, undef, undef, undef, undef, undef, undef, undef, undef, undef, undef, undef, undef, undef, undef, undef, undef, undef, undef, undef, undef, undef, undef, undef, undef, undef, undef, undef, undef, undef, undef] _
  have H := H0
  refine run_seq ?_
  refine run_region rfl (fun _ _ h => h) ?_
  refine ops_alloc ty28 H ?_
  intro w1 g2 H1 hg2
  refine ops_alloc ty32 H1 ?_
  intro w2 g3 H2 hg3
  refine ops_nil ?_
  change Run _ _ _ _ [_, _, _, _, _, _, _, _, _, _, _, _, _, _, _, _, _, _, _, _, _, _, _, _, _, _, _, _, _, _, _, _, _, _, _, _, _, _, _, _, _, _, _, _, _, _, _, _, _, _, _, _, _, _, _, _, _, _, _, _, _, _, _, _, _, _, _, _, _] _
  refine run_seq ?_
  refine run_seq ?_
  refine run_region rfl (fun _ _ h => h) ?_
  refine ops_val (ex_move rfl) ?_
  refine ops_false (ex_eql_nil_ptr Try.underlying27 rfl) (by simp) ?_
  refine ops_nil ?_
  change Run _ _ _ _ [_, _, _, _, _, _, _, _, _, _, _, _, _, _, _, _, _, _, _, _, _, _, _, _, _, _, _, _, _, _, _, _, _, _, _, _, _, _, _, _, _, _, _, _, _, _, _, _, _, _, _, _, _, _, _, _, _, _, _, _, _, _, _, _, _, _, _, _, _] _
  refine run_cond_false rfl ?_
  refine run_skip ?_
  refine run_seq ?_
  refine run_seq ?_
  refine run_region rfl (fun _ _ h => h) ?_
  refine ops_val (ex_move rfl) ?_
  refine ops_call_eq (ex_call gf27 rfl) (down_p gd true _ (by have hz := H2.cell (i := 0) (o := 2) (v := .bool D.down) rfl rfl; rw [hdn] at hz; exact hz)) ?_
  refine ops_nil ?_
  change Run _ _ _ _ [_, _, _, _, _, _, _, _, _, _, _, _, _, _, _, _, _, _, _, _, _, _, _, _, _, _, _, _, _, _, _, _, _, _, _, _, _, _, _, _, _, _, _, _, _, _, _, _, _, _, _, _, _, _, _, _, _, _, _, _, _, _, _, _, _, _, _, _, _] _
  refine run_cond_true rfl ?_
  refine run_seq ?_
  refine run_region rfl (fun _ _ h => h) ?_
  refine ops_store1 ty28 H2 3 rfl rfl rfl rfl (by first | decide | simp) rfl ?_
  intro w3 H3
  refine ops_store1 ty32 H3 4 rfl rfl rfl rfl (by first | decide | simp) rfl ?_
  intro w4 H4
  refine ops_nil ?_
  change Run _ _ _ _ [_, _, _, _, _, _, _, _, _, _, _, _, _, _, _, _, _, _, _, _, _, _, _, _, _, _, _, _, _, _, _, _, _, _, _, _, _, _, _, _, _, _, _, _, _, _, _, _, _, _, _, _, _, _, _, _, _, _, _, _, _, _, _, _, _, _, _, _, _] _
  refine run_ret ?_
  refine finD_ret (results_cell2 rfl ty28 ty32 rfl rfl (H4.cell (i := 3) rfl rfl) (H4.cell (i := 4) rfl rfl)) ⟨rfl, H4.pick [0, 1, 2] (by decide)⟩
set_option maxRecDepth 100000 in
set_option maxHeartbeats 4000000 in
theorem open_any (gd gk : Nat) (gw : Option Nat) (cw : Nat) (sp : List Value) (D : Dk) (w0 : World) (H0 : Hp w0 w0 (bl (dRows gd gk gw cw sp D)) (dRows gd gk gw cw sp D)) (hD : DOk D gw cw sp) (hdn : D.down = false) (hsize : 64 ≤ D.kept.length) (hwt : D.wait.length ≤ 1000000000) (t f s : Nat) (rs : List Blk) (hbest : (bestH D 2).2 = [.int .u64 (t : Int), .int .i64 (f : Int), .int .i64 ((f + rs.length : Nat) : Int), .int .i64 (s : Int)]) (ht : t ≤ 2 ^ 60) (hf : f ≤ 2 ^ 60) (hs : s < D.kept.length - 2) (hlaid : Laid D (Wl.anew t f s) rs) (hrm : rs.length ≤ 16384) (hrR : rs.length ≤ D.kept.length - 2) (hrl : ∀ b ∈ rs, b.length ≤ 16384) (hru : used rs ≤ 2 ^ 39) :
    DoesP Try.prog 18 #[.pointer (some ⟨gd, 0, none⟩)] w0 (fun r w' => ∃ m : Mw, r = .tuple #[.pointer (some ⟨m.gv, 0, none⟩), .int .i64 0] ∧ m.gd = gd ∧ m.gk = gk ∧ w0.heap.size ≤ m.gv ∧ XsOk w0 [] m.xs ∧ WOk w' m D (Wl.found (Wl.anew t f s) D rs) ∧ Hp w0 w' (bl (dRows gd gk gw cw sp D)) (wRows m D (Wl.found (Wl.anew t f s) D rs))) (fun _ _ => False) := by
  refine does_ofD Try.func18 Try.ntmps18 rfl ?_
  change Run _ _ _ _ [.pointer (some ⟨gd, 0, none⟩), undef, undef, undef, undef, undef, undef, undef, undef, undef, undef, undef, undef, undef, undef, undef, undef, undef, undef, undef, undef, undef, undef, undef, undef, undef, undef, undef, undef, undef, undef, undef, undef, undef, undef, undef, undef, undef, undef, undef, undef, undef, undef, undef, undef, undef, undef, undef, undef, undef, undef, undef, undef, undef, undef, undef, undef, undef, undef, undef, undef, undef, undef, undef, undef, undef, undef, undef, undef] _
  have H := H0
  have hkept := hD.most
  refine run_seq ?_
  refine run_region rfl (fun _ _ h => h) ?_
  refine ops_alloc ty28 H ?_
  intro w1 g2 H1 hg2
  refine ops_alloc ty32 H1 ?_
  intro w2 g3 H2 hg3
  refine ops_nil ?_
  change Run _ _ _ _ [_, _, _, _, _, _, _, _, _, _, _, _, _, _, _, _, _, _, _, _, _, _, _, _, _, _, _, _, _, _, _, _, _, _, _, _, _, _, _, _, _, _, _, _, _, _, _, _, _, _, _, _, _, _, _, _, _, _, _, _, _, _, _, _, _, _, _, _, _] _
  refine run_seq ?_
  refine run_seq ?_
  refine run_region rfl (fun _ _ h => h) ?_
  refine ops_val (ex_move rfl) ?_
  refine ops_false (ex_eql_nil_ptr Try.underlying27 rfl) (by simp) ?_
  refine ops_nil ?_
  change Run _ _ _ _ [_, _, _, _, _, _, _, _, _, _, _, _, _, _, _, _, _, _, _, _, _, _, _, _, _, _, _, _, _, _, _, _, _, _, _, _, _, _, _, _, _, _, _, _, _, _, _, _, _, _, _, _, _, _, _, _, _, _, _, _, _, _, _, _, _, _, _, _, _] _
  refine run_cond_false rfl ?_
  refine run_skip ?_
  refine run_seq ?_
  refine run_seq ?_
  refine run_region rfl (fun _ _ h => h) ?_
  refine ops_val (ex_move rfl) ?_
  refine ops_call_eq (ex_call gf27 rfl) (down_p gd false _ (by have hz := H2.cell (i := 0) (o := 2) (v := .bool D.down) rfl rfl; rw [hdn] at hz; exact hz)) ?_
  refine ops_nil ?_
  change Run _ _ _ _ [_, _, _, _, _, _, _, _, _, _, _, _, _, _, _, _, _, _, _, _, _, _, _, _, _, _, _, _, _, _, _, _, _, _, _, _, _, _, _, _, _, _, _, _, _, _, _, _, _, _, _, _, _, _, _, _, _, _, _, _, _, _, _, _, _, _, _, _, _] _
  refine run_cond_false rfl ?_
  refine run_skip ?_
  refine run_seq ?_
  refine run_defer rfl rfl ?_
  change Run _ _ _ _ [_, _, _, _, _, _, _, _, _, _, _, _, _, _, _, _, _, _, _, _, _, _, _, _, _, _, _, _, _, _, _, _, _, _, _, _, _, _, _, _, _, _, _, _, _, _, _, _, _, _, _, _, _, _, _, _, _, _, _, _, _, _, _, _, _, _, _, _, _] _
  refine run_seq ?_
  refine run_region rfl (fun _ _ h => h) ?_
  refine ops_val (ex_move rfl) ?_
  refine ops_val (ex_build ty58 pl58 rfl rfl) ?_
  refine ops_box rfl rfl H2 ?_
  intro w3 g17 H3 hg17  
  have hgv : w0.heap.size ≤ g17 := by rw [hg17]; exact H2.size
  refine ops_store1 ty28 H3 3 rfl rfl rfl rfl (by first | decide | simp) rfl ?_
  intro w4 H4
  refine ops_nil ?_
  change Run _ _ _ _ [_, _, _, _, _, _, _, _, _, _, _, _, _, _, _, _, _, _, _, _, _, _, _, _, _, _, _, _, _, _, _, _, _, _, _, _, _, _, _, _, _, _, _, _, _, _, _, _, _, _, _, _, _, _, _, _, _, _, _, _, _, _, _, _, _, _, _, _, _] _
  refine run_seq ?_
  refine run_region rfl (fun _ _ h => h) ?_
  refine ops_alloc ty76 H4 ?_
  intro w5 g4 H5 hg4
  refine ops_nil ?_
  change Run _ _ _ _ [_, _, _, _, _, _, _, _, _, _, _, _, _, _, _, _, _, _, _, _, _, _, _, _, _, _, _, _, _, _, _, _, _, _, _, _, _, _, _, _, _, _, _, _, _, _, _, _, _, _, _, _, _, _, _, _, _, _, _, _, _, _, _, _, _, _, _, _, _] _
  refine run_seq ?_
  refine run_seq ?_
  refine run_region rfl (fun _ _ h => h) ?_
  refine ops_val (ex_assign rfl) ?_
  refine ops_nil ?_
  change Run _ _ _ _ [_, _, _, _, _, _, _, _, _, _, _, _, _, _, _, _, _, _, _, _, _, _, _, _, _, _, _, _, _, _, _, _, _, _, _, _, _, _, _, _, _, _, _, _, _, _, _, _, _, _, _, _, _, _, _, _, _, _, _, _, _, _, _, _, _, _, _, _, _] _
  refine run_block ?_
  refine run_loop (fun n l w => ∃ (i : Nat) (bv : List Value) (y : Int), 2 - i = n ∧ Fits [some (.pointer (some ⟨gd, 0, none⟩)), none, some (.pointer (some ⟨g2, 0, none⟩)), some (.pointer (some ⟨g3, 0, none⟩)), some (.pointer (some ⟨g4, 0, none⟩)), some (.int .i64 y), none, none, none, none, none, none, none, none, none, none, none, none, none, none, none, none, none, none, none, none, none, none, none, none, none, none, none, none, none, none, none, none, none, none, none, none, none, none, none, none, none, none, none, none, none, none, none, none, none, none, none, none, none, none, none, none, none, none, none, none, none, none, none] l ∧ y = (i : Int) ∧ i ≤ 2 ∧ bv = (bestH D i).2 ∧ Hp w0 w (bl (dRows gd gk gw cw sp D)) (dRows gd gk gw cw sp D ++ [(some g2, 28, [.pointer (some ⟨g17, 0, none⟩)]), (some g3, 32, [.int .i64 (0 : Int)]), (some g17, 58, [.pointer (some ⟨gd, 0, none⟩), .bool false, .int .u64 (0 : Int), .int .i64 (0 : Int), .slice none 0 0, .slice none 0 0, .int .i64 (0 : Int), .int .i64 (0 : Int), .int .i64 (0 : Int)]), (some g4, 76, bv)])) (2) ?_ ?_
  · exact ⟨0, _, _, rfl, (fs (fn (fs (fs (fs (fs (fn (fn (fn (fn (fn (fn (fn (fn (fn (fn (fn (fn (fn (fn (fn (fn (fn (fn (fn (fn (fn (fn (fn (fn (fn (fn (fn (fn (fn (fn (fn (fn (fn (fn (fn (fn (fn (fn (fn (fn (fn (fn (fn (fn (fn (fn (fn (fn (fn (fn (fn (fn (fn (fn (fn (fn (fn (fn (fn (fn (fn (fn (fn f0))))))))))))))))))))))))))))))))))))))))))))))))))))))))))))))))))))), rfl, by omega, rfl, H5⟩
  · rintro n l w6 ⟨i, bv, y, rfl, hfit, rfl, hi, rfl, H6⟩
    obtain ⟨j, rfl⟩ := hfit.open
    change Run _ _ _ _ [_, _, _, _, _, _, _, _, _, _, _, _, _, _, _, _, _, _, _, _, _, _, _, _, _, _, _, _, _, _, _, _, _, _, _, _, _, _, _, _, _, _, _, _, _, _, _, _, _, _, _, _, _, _, _, _, _, _, _, _, _, _, _, _, _, _, _, _, _] _
    clear hfit
    obtain ⟨ba, bb, bc, hbv⟩ := best_head D i
    rw [hbv] at H6
    refine run_seq ?_
    refine run_seq ?_
    refine run_region rfl (fun _ _ h => h) ?_
    refine ops_val (ex_move rfl) ?_
    refine ops_test (ex_lss rfl rfl) (fun hp19 => ?_) (fun hp19 => ?_)
    · have hi2 : i < 2 := by omega
      refine ops_val (ex_move rfl) ?_
      refine nO69 ?_
      refine ops_yes rfl ?_
      refine ops_val (ex_move rfl) ?_
      refine ops_yes rfl ?_
      refine ops_val (ex_move rfl) ?_
      refine nO69 ?_
      refine ops_yes rfl ?_
      refine ops_call_eq (ex_call gf32 rfl) (size_p gd D.kept.length _ _ _ (H6.cell (i := 0) rfl rfl)) ?_
      refine ops_yes rfl ?_
      refine ops_true (ex_lss rfl rfl) (by omega) ?_
      refine ops_val (ex_pick_t rfl rfl) ?_
      refine ops_nil ?_
      change Run _ _ _ _ [_, _, _, _, _, _, _, _, _, _, _, _, _, _, _, _, _, _, _, _, _, _, _, _, _, _, _, _, _, _, _, _, _, _, _, _, _, _, _, _, _, _, _, _, _, _, _, _, _, _, _, _, _, _, _, _, _, _, _, _, _, _, _, _, _, _, _, _, _] _
      refine run_cond_true rfl ?_
      refine run_skip ?_
      refine run_seq ?_
      refine run_block ?_
      refine run_seq ?_
      refine run_region rfl (fun _ _ h => h) ?_
      refine ops_val (ex_move rfl) ?_
      refine ops_val (ex_move rfl) ?_
      refine ops_call (ex_call gf50 rfl) (read_live gd gk gw cw sp D _ (H6.pick [0, 1, 2] (by decide)).here hD hdn i (by omega) hwt) ?_
      rintro r w7 ⟨g, cap, s5, hr, hcap, hcs, Hc⟩
      rw [hr]
      have H7 := (H6.callr [0, 1, 2] rfl Hc).pick [7, 8, 9, 3, 4, 5, 6, 10] (by decide)
      refine ops_val (ex_move rfl) ?_
      refine nO69 ?_
      refine ops_val (ex_extract rfl rfl) ?_
      refine ops_val (ex_extract rfl rfl) ?_
      refine ops_val (ex_assign rfl) ?_
      refine ops_val (ex_assign rfl) ?_
      refine ops_nil ?_
      change Run _ _ _ _ [_, _, _, _, _, _, _, _, _, _, _, _, _, _, _, _, _, _, _, _, _, _, _, _, _, _, _, _, _, _, _, _, _, _, _, _, _, _, _, _, _, _, _, _, _, _, _, _, _, _, _, _, _, _, _, _, _, _, _, _, _, _, _, _, _, _, _, _, _] _
      refine run_seq ?_
      refine run_region rfl (fun _ _ h => h) ?_
      refine ops_val (ex_move rfl) ?_
      refine ops_call (ex_call gf36 rfl) ((must_any 0 _).d (fun _ _ hx => hx.1 rfl)) ?_
      rintro r wz ⟨_, hwz⟩
      rw [hwz]
      refine ops_nil ?_
      change Run _ _ _ _ [_, _, _, _, _, _, _, _, _, _, _, _, _, _, _, _, _, _, _, _, _, _, _, _, _, _, _, _, _, _, _, _, _, _, _, _, _, _, _, _, _, _, _, _, _, _, _, _, _, _, _, _, _, _, _, _, _, _, _, _, _, _, _, _, _, _, _, _, _] _
      refine run_seq ?_
      refine run_region rfl (fun _ _ h => h) ?_
      refine ops_val (ex_move rfl) ?_
      have e64 : (D.show i).length = 64 := show_len hD (by omega)
      have hrh := readHead_any (some ⟨g, 0, none⟩) (D.show i) cap w7 (H7.rd (i := 7) (o := some g) (xs := u8s (D.show i)) (sp := s5) rfl (u8s_length1 _) (by decide)) e64 (by omega)
      rw [e64] at hrh
      refine ops_call (ex_call gf51 rfl) hrh ?_
      rintro r w8 ⟨hr2, Hc⟩
      rw [hr2]
      have H8 := (H7.call0 Hc).pick [0, 1, 2, 3, 4, 5, 6, 7] (by decide)
      refine ops_val (ex_move rfl) ?_
      refine ops_val (ex_extract rfl rfl) ?_
      refine nO69 ?_
      refine ops_val (ex_extract rfl rfl) ?_
      rcases Bool.eq_false_or_eq_true (decide (rd8 (D.show i) = rd8 ((D.show i).drop 56))) with hok | hok <;> rw [hok]
      · skip
        refine ops_alloc ty76 H8 ?_
        intro w9 g8 H9 hg8
        refine ops_store ty76 H9 8 rfl rfl rfl rfl rfl (by exact Nat.le_refl 4) rfl ?_
        intro w10 H10
        refine ops_val (ex_assign rfl) ?_
        refine ops_nil ?_
        change Run _ _ _ _ [_, _, _, _, _, _, _, _, _, _, _, _, _, _, _, _, _, _, _, _, _, _, _, _, _, _, _, _, _, _, _, _, _, _, _, _, _, _, _, _, _, _, _, _, _, _, _, _, _, _, _, _, _, _, _, _, _, _, _, _, _, _, _, _, _, _, _, _, _] _
        refine run_seq ?_
        refine run_region rfl (fun _ _ h => h) ?_
        refine ops_val (ex_move rfl) ?_
        refine ops_val (ex_move rfl) ?_
        refine nO69 ?_
        refine ops_yes rfl ?_
        refine ops_val (ex_fieldAddr fl76_0 rfl) ?_
        refine ops_yes rfl ?_
        refine ops_val (ex_load ty56 rfl (H10.cell (i := 8) (o := 0) rfl rfl)) ?_
        refine nO69 ?_
        refine ops_yes rfl ?_
        refine ops_val (ex_fieldAddr fl76_0 rfl) ?_
        refine ops_yes rfl ?_
        refine ops_val (ex_load ty56 rfl (H10.cell (i := 6) (o := 0) rfl rfl)) ?_
        refine nO69 ?_
        refine ops_yes rfl ?_
        refine ops_test (ex_gtr rfl rfl) (fun hp47 => ?_) (fun hp47 => ?_)
        · skip
          refine ops_val (ex_pick_t rfl rfl) ?_
          refine ops_nil ?_
          change Run _ _ _ _ [_, _, _, _, _, _, _, _, _, _, _, _, _, _, _, _, _, _, _, _, _, _, _, _, _, _, _, _, _, _, _, _, _, _, _, _, _, _, _, _, _, _, _, _, _, _, _, _, _, _, _, _, _, _, _, _, _, _, _, _, _, _, _, _, _, _, _, _, _] _
          refine run_cond_true rfl ?_
          refine run_region rfl (fun _ _ h => h) ?_
          refine ops_val (ex_loadN ty76 rfl (vs := headV (D.show i)) rfl (cells_of H10 (i := 8) (o := 0) rfl (fun j u hu => by rw [Nat.zero_add]; exact hu))) ?_
          refine ops_store ty76 H10 6 rfl rfl rfl rfl rfl (by exact Nat.le_refl 4) rfl ?_
          intro w11 H11
          refine ops_nil ?_
          change Run _ _ _ _ [_, _, _, _, _, _, _, _, _, _, _, _, _, _, _, _, _, _, _, _, _, _, _, _, _, _, _, _, _, _, _, _, _, _, _, _, _, _, _, _, _, _, _, _, _, _, _, _, _, _, _, _, _, _, _, _, _, _, _, _, _, _, _, _, _, _, _, _, _] _
          refine run_nil (blk_normal ?_)
          refine run_region rfl (fun _ _ h => h) ?_
          refine ops_val (ex_move rfl) ?_
          refine ops_val (ex_add rfl rfl (IntWalk.i64_in _ (by omega))) ?_
          refine ops_val (ex_assign rfl) ?_
          refine ops_nil ?_
          change Run _ _ _ _ [_, _, _, _, _, _, _, _, _, _, _, _, _, _, _, _, _, _, _, _, _, _, _, _, _, _, _, _, _, _, _, _, _, _, _, _, _, _, _, _, _, _, _, _, _, _, _, _, _, _, _, _, _, _, _, _, _, _, _, _, _, _, _, _, _, _, _, _, _] _
          refine run_nil (rnd_normal ?_)
          refine ⟨rfl, ?_⟩
          exact ⟨2 - (i + 1), by omega, i + 1, headV (D.show i), _, rfl, (fs (fn (fs (fs (fs (fs (fn (fn (fn (fn (fn (fn (fn (fn (fn (fn (fn (fn (fn (fn (fn (fn (fn (fn (fn (fn (fn (fn (fn (fn (fn (fn (fn (fn (fn (fn (fn (fn (fn (fn (fn (fn (fn (fn (fn (fn (fn (fn (fn (fn (fn (fn (fn (fn (fn (fn (fn (fn (fn (fn (fn (fn (fn (fn (fn (fn (fn (fn (fn f0))))))))))))))))))))))))))))))))))))))))))))))))))))))))))))))))))))), by omega, by omega, (best_yes (of_decide_eq_true hok) (by omega)).symm, H11.pick [0, 1, 2, 3, 4, 5, 6] (by decide)⟩
        · skip
          refine ops_val (ex_pick_t rfl rfl) ?_
          refine ops_nil ?_
          change Run _ _ _ _ [_, _, _, _, _, _, _, _, _, _, _, _, _, _, _, _, _, _, _, _, _, _, _, _, _, _, _, _, _, _, _, _, _, _, _, _, _, _, _, _, _, _, _, _, _, _, _, _, _, _, _, _, _, _, _, _, _, _, _, _, _, _, _, _, _, _, _, _, _] _
          refine run_cond_false rfl ?_
          refine run_skip ?_
          refine run_nil (blk_normal ?_)
          refine run_region rfl (fun _ _ h => h) ?_
          refine ops_val (ex_move rfl) ?_
          refine ops_val (ex_add rfl rfl (IntWalk.i64_in _ (by omega))) ?_
          refine ops_val (ex_assign rfl) ?_
          refine ops_nil ?_
          change Run _ _ _ _ [_, _, _, _, _, _, _, _, _, _, _, _, _, _, _, _, _, _, _, _, _, _, _, _, _, _, _, _, _, _, _, _, _, _, _, _, _, _, _, _, _, _, _, _, _, _, _, _, _, _, _, _, _, _, _, _, _, _, _, _, _, _, _, _, _, _, _, _, _] _
          refine run_nil (rnd_normal ?_)
          refine ⟨rfl, ?_⟩
          exact ⟨2 - (i + 1), by omega, i + 1, _, _, rfl, (fs (fn (fs (fs (fs (fs (fn (fn (fn (fn (fn (fn (fn (fn (fn (fn (fn (fn (fn (fn (fn (fn (fn (fn (fn (fn (fn (fn (fn (fn (fn (fn (fn (fn (fn (fn (fn (fn (fn (fn (fn (fn (fn (fn (fn (fn (fn (fn (fn (fn (fn (fn (fn (fn (fn (fn (fn (fn (fn (fn (fn (fn (fn (fn (fn (fn (fn (fn (fn f0))))))))))))))))))))))))))))))))))))))))))))))))))))))))))))))))))))), by omega, by omega, ((best_no (fun hx => by omega)).trans hbv).symm, H10.pick [0, 1, 2, 3, 4, 5, 6] (by decide)⟩
      · skip
        refine ops_alloc ty76 H8 ?_
        intro w9 g8 H9 hg8
        refine ops_store ty76 H9 8 rfl rfl rfl rfl rfl (by exact Nat.le_refl 4) rfl ?_
        intro w10 H10
        refine ops_val (ex_assign rfl) ?_
        refine ops_nil ?_
        change Run _ _ _ _ [_, _, _, _, _, _, _, _, _, _, _, _, _, _, _, _, _, _, _, _, _, _, _, _, _, _, _, _, _, _, _, _, _, _, _, _, _, _, _, _, _, _, _, _, _, _, _, _, _, _, _, _, _, _, _, _, _, _, _, _, _, _, _, _, _, _, _, _, _] _
        refine run_seq ?_
        refine run_region rfl (fun _ _ h => h) ?_
        refine ops_val (ex_move rfl) ?_
        refine ops_val (ex_move rfl) ?_
        refine nO69 ?_
        refine ops_no rfl ?_
        refine ops_no rfl ?_
        refine nO69 ?_
        refine ops_no rfl ?_
        refine ops_no rfl ?_
        refine nO69 ?_
        refine ops_no rfl ?_
        refine ops_val (ex_pick_f rfl rfl) ?_
        refine ops_nil ?_
        change Run _ _ _ _ [_, _, _, _, _, _, _, _, _, _, _, _, _, _, _, _, _, _, _, _, _, _, _, _, _, _, _, _, _, _, _, _, _, _, _, _, _, _, _, _, _, _, _, _, _, _, _, _, _, _, _, _, _, _, _, _, _, _, _, _, _, _, _, _, _, _, _, _, _] _
        refine run_cond_false rfl ?_
        refine run_skip ?_
        refine run_nil (blk_normal ?_)
        refine run_region rfl (fun _ _ h => h) ?_
        refine ops_val (ex_move rfl) ?_
        refine ops_val (ex_add rfl rfl (IntWalk.i64_in _ (by omega))) ?_
        refine ops_val (ex_assign rfl) ?_
        refine ops_nil ?_
        change Run _ _ _ _ [_, _, _, _, _, _, _, _, _, _, _, _, _, _, _, _, _, _, _, _, _, _, _, _, _, _, _, _, _, _, _, _, _, _, _, _, _, _, _, _, _, _, _, _, _, _, _, _, _, _, _, _, _, _, _, _, _, _, _, _, _, _, _, _, _, _, _, _, _] _
        refine run_nil (rnd_normal ?_)
        refine ⟨rfl, ?_⟩
        exact ⟨2 - (i + 1), by omega, i + 1, _, _, rfl, (fs (fn (fs (fs (fs (fs (fn (fn (fn (fn (fn (fn (fn (fn (fn (fn (fn (fn (fn (fn (fn (fn (fn (fn (fn (fn (fn (fn (fn (fn (fn (fn (fn (fn (fn (fn (fn (fn (fn (fn (fn (fn (fn (fn (fn (fn (fn (fn (fn (fn (fn (fn (fn (fn (fn (fn (fn (fn (fn (fn (fn (fn (fn (fn (fn (fn (fn (fn (fn f0))))))))))))))))))))))))))))))))))))))))))))))))))))))))))))))))))))), by omega, by omega, ((best_no (fun hx => of_decide_eq_false hok hx.1)).trans hbv).symm, H10.pick [0, 1, 2, 3, 4, 5, 6] (by decide)⟩
    · have hi2 : i = 2 := by omega
      subst hi2
      rw [hbv.symm.trans hbest] at H6
      refine ops_val (ex_move rfl) ?_
      refine nO69 ?_
      refine ops_no rfl ?_
      refine ops_no rfl ?_
      refine nO69 ?_
      refine ops_no rfl ?_
      refine ops_no rfl ?_
      refine ops_val (ex_pick_f rfl rfl) ?_
      refine ops_nil ?_
      change Run _ _ _ _ [_, _, _, _, _, _, _, _, _, _, _, _, _, _, _, _, _, _, _, _, _, _, _, _, _, _, _, _, _, _, _, _, _, _, _, _, _, _, _, _, _, _, _, _, _, _, _, _, _, _, _, _, _, _, _, _, _, _, _, _, _, _, _, _, _, _, _, _, _] _
      refine run_cond_false rfl ?_
      refine run_exit ?_
      refine rnd_exit ?_
      refine blk_exit ?_
      refine run_seq ?_
      refine run_mixZ 17 [(true, 0), (true, 1), (true, 2), (true, 3), (true, 4), (true, 5), (true, 6), (true, 7), (true, 8), (true, 9), (true, 10), (false, 11), (true, 12), (true, 13), (false, 14), (true, 15), (true, 16), (false, 17)] H6 [3, 6] mixed (by decide) (by kernel_rfl) rfl ?_
      rintro w7 hw7
      have H7 := Hp.drew H6; rw [← hw7] at H7
      refine mixz_p rfl ?_
      refine mix1_val (fun wz hz => ex_load ty28 rfl (hz.cell (i := 0) rfl rfl)) ?_
      refine mixz_p rfl ?_
      refine mix1_val (fun wz hz => ex_load ty28 rfl (hz.cell (i := 0) rfl rfl)) ?_
      refine mixz_p rfl ?_
      refine mix1_val (fun wz hz => ex_load ty28 rfl (hz.cell (i := 0) rfl rfl)) ?_
      refine mixz_p rfl ?_
      refine mix1_val (fun wz hz => ex_fieldAddr fl76_0 rfl) ?_
      refine nZ69 ?_
      refine mixz_p rfl ?_
      refine mix1_val (fun wz hz => ex_load ty56 rfl (hz.cell (i := 1) rfl rfl)) ?_
      refine mixz_p rfl ?_
      refine mix1_val (fun wz hz => ex_fieldAddr fl76_1 rfl) ?_
      refine mixz_p rfl ?_
      refine mix1_val (fun wz hz => ex_load ty3 rfl (hz.cell (i := 1) rfl rfl)) ?_
      refine mixz_p rfl ?_
      refine mix1_val (fun wz hz => ex_fieldAddr fl76_3 rfl) ?_
      refine nZ69 ?_
      refine mixz_p rfl ?_
      refine mix1_val (fun wz hz => ex_load ty3 rfl (hz.cell (i := 1) rfl rfl)) ?_
      refine mixz_p rfl ?_
      refine mix1_val (fun wz hz => ex_nilCheck rfl) ?_
      refine mixz_p rfl ?_
      refine mix1_val (fun wz hz => ex_fieldAddr fl58_2 rfl) ?_
      refine mixz_o rfl ?_
      refine ops_store1 ty56 H7 5 rfl rfl rfl rfl (by first | decide | simp) rfl ?_
      intro w8 H8
      refine ops_nil ?_
      refine ⟨fun hne => H8.pick [3, 6] (by decide), ?_⟩
      refine nZ69 ?_
      refine mixz_p rfl ?_
      refine mix1_val (fun wz hz => ex_nilCheck rfl) ?_
      refine mixz_p rfl ?_
      refine mix1_val (fun wz hz => ex_fieldAddr fl58_3 rfl) ?_
      refine mixz_o rfl ?_
      refine ops_store1 ty3 H8 5 rfl rfl rfl rfl (by first | decide | simp) rfl ?_
      intro w9 H9
      refine ops_nil ?_
      refine ⟨fun hne => H9.pick [3, 6] (by decide), ?_⟩
      refine nZ69 ?_
      refine mixz_p rfl ?_
      refine mix1_val (fun wz hz => ex_nilCheck rfl) ?_
      refine mixz_p rfl ?_
      refine mix1_val (fun wz hz => ex_fieldAddr fl58_6 rfl) ?_
      refine mixz_o rfl ?_
      refine ops_store1 ty3 H9 5 rfl rfl rfl rfl (by first | decide | simp) rfl ?_
      intro w10 H10
      refine ops_nil ?_
      refine ⟨fun hne => absurd rfl hne, ?_⟩
      refine nZ69 ?_
      refine mixz_nil ?_
      change Run _ _ _ _ [_, _, _, _, _, _, _, _, _, _, _, _, _, _, _, _, _, _, _, _, _, _, _, _, _, _, _, _, _, _, _, _, _, _, _, _, _, _, _, _, _, _, _, _, _, _, _, _, _, _, _, _, _, _, _, _, _, _, _, _, _, _, _, _, _, _, _, _, _] _
      refine run_seq ?_
      refine run_region rfl (fun _ _ h => h) ?_
      refine ops_val (ex_load ty28 rfl (H10.cell (i := 3) rfl rfl)) ?_
      refine ops_val (ex_loadN ty76 rfl (vs := [.int .u64 (t : Int), .int .i64 (f : Int), .int .i64 ((f + rs.length : Nat) : Int), .int .i64 (s : Int)]) rfl (cells_of H10 (i := 6) (o := 0) rfl (fun j u hu => by rw [Nat.zero_add]; exact hu))) ?_
      have Hn := (H10.nil 34).nil 3
      have hw0 : WOk w10 ⟨gd, gk, gw, cw, sp, g17, none, 0, [], [], none, 0, []⟩ D (Wl.anew t f s) := anew_ok hD hsize ht hf hs
      have hF8 : ∀ x ∈ bl [((some g2, 28, [.pointer (some ⟨g17, 0, none⟩)]) : Ent), (some g3, 32, [.int .i64 (0 : Int)])], x ∈ bl (wRows ⟨gd, gk, gw, cw, sp, g17, none, 0, [], [], none, 0, []⟩ D (Wl.anew t f s) ++ [((some g2, 28, [.pointer (some ⟨g17, 0, none⟩)]) : Ent), (some g3, 32, [.int .i64 (0 : Int)])]) ∧ x < w10.heap.size := by
        intro x hx
        have h2 := H10.lt (i := 3) rfl
        have h3 := H10.lt (i := 4) rfl
        refine ⟨by unfold bl at hx ⊢; rw [List.filterMap_append]; exact List.mem_append.2 (.inr hx), ?_⟩
        have hx2 : x = g2 ∨ x = g3 := by simpa [bl] using hx
        rcases hx2 with rfl | rfl
        · exact h2
        · exact h3
      have hsz0 := H10.size
      refine ops_call (ex_call gf52 rfl) (find_any ⟨gd, gk, gw, cw, sp, g17, none, 0, [], [], none, 0, []⟩ D (Wl.anew t f s) w10 (Hn.pick [0, 1, 2, 5, 7, 8] (by decide)).here hw0 hdn hwt rs rfl hlaid hrm hrR hrl hru) ?_
      rintro r w11 ⟨m1, e1, e2, e3, e4, hok1, Hd⟩
      have hlz := Lsw.frame (Lsw.nil w10 (wRows ⟨gd, gk, gw, cw, sp, g17, none, 0, [], [], none, 0, []⟩ D (Wl.anew t f s) ++ [((some g2, 28, [.pointer (some ⟨g17, 0, none⟩)]) : Ent), (some g3, 32, [.int .i64 (0 : Int)])])) e4 hok1.lst hF8
      have Hold := (Hn.callr [0, 1, 2, 5, 7, 8] rfl Hd).pick [9, 10, 11, 12, 13, 14, 3, 4] (by decide)
      have H11 := Hold.here
      refine ops_nil ?_
      change Run _ _ _ _ [_, _, _, _, _, _, _, _, _, _, _, _, _, _, _, _, _, _, _, _, _, _, _, _, _, _, _, _, _, _, _, _, _, _, _, _, _, _, _, _, _, _, _, _, _, _, _, _, _, _, _, _, _, _, _, _, _, _, _, _, _, _, _, _, _, _, _, _, _] _
      refine run_seq ?_
      refine run_region rfl (fun _ _ h => h) ?_
      refine ops_val (ex_load ty28 rfl (H11.cell (i := 6) rfl rfl)) ?_
      refine ops_store1 ty28 H11 6 rfl rfl rfl rfl (by simp) rfl ?_
      intro w12 H12
      refine ops_store1 ty32 H12 7 rfl rfl rfl rfl (by simp) rfl ?_
      intro w13 H13
      refine ops_nil ?_
      change Run _ _ _ _ [_, _, _, _, _, _, _, _, _, _, _, _, _, _, _, _, _, _, _, _, _, _, _, _, _, _, _, _, _, _, _, _, _, _, _, _, _, _, _, _, _, _, _, _, _, _, _, _, _, _, _, _, _, _, _, _, _, _, _, _, _, _, _, _, _, _, _, _, _] _
      refine run_ret ?_
      refine leaves_one gf49 (.inl ⟨rfl, rfl, rfl⟩) ?_
      obtain ⟨hx1, hx2⟩ := openX_ret g2 g3 w13
      refine ⟨hx1, fun c cs hu hr => ?_⟩
      obtain ⟨e, u1, w', fr, ⟨r, he, hu1, hww⟩, hrest⟩ := hx2 c cs hu hr
      rw [hww] at hrest
      have Hend := (Hold.callr [0, 1, 2, 3, 4, 5, 6, 7] rfl H13).pick [8, 9, 10, 11, 12, 13] (by decide)
      refine ⟨e, u1, w13, fr, ⟨r, he, hu1, _, results_cell2 rfl ty28 ty32 rfl rfl (H13.cell (i := 6) (o := 0) rfl rfl) (H13.cell (i := 7) (o := 0) rfl rfl), m1, by rw [e3], e1, e2, by rw [e3]; exact hgv, fun v hv => ?_, ?_, Hend⟩, hrest⟩
      · rcases e4 v hv with h1 | h1
        · exact .inl h1
        · exact .inr fun p n c he => Nat.le_trans hsz0 (h1 p n c he)
      · exact { hok1 with lst := (hlz.to H13).less (fun x hx => bl_pick (is := [0, 1, 2, 3, 4, 5]) H13 x hx) }
end Rn
end Go.Proofs.Ytgkciibfpenjpaa
