/- Walks of layer 2, printed by wip/gen/codec.py. -/
import Derived.Test.YtgkciibfpenjpaaNrm
import Derived.Test.YtgkciibfpenjpaaWlwD
namespace Go.Proofs.Ytgkciibfpenjpaa
open Go Go.RowKit
set_option linter.unusedVariables false
attribute [local irreducible] Still Ops Does Cd
theorem show0 {n i : Nat} (h : i < n) (c : Nat) (s : List Value) : Dk.show ⟨List.replicate n zero64, [], false, 0, c, s⟩ i = zero64 := by
  unfold Dk.show
  show (List.replicate n zero64).getD i [] = _
  rw [List.getD_eq_getElem?_getD, List.getElem?_eq_getElem (by simpa using h), List.getElem_replicate]; rfl
theorem Lg.empty0 {n : Nat} (h : 64 ≤ n) : Lg ((⟨List.replicate n zero64, [], false, 0, n, []⟩ : Dk)).show ((⟨List.replicate n zero64, [], false, 0, n, []⟩ : Dk)).kept.length (Wl.anew 0 0 0) 0 := by
  have e : ((⟨List.replicate n zero64, [], false, 0, n, []⟩ : Dk)).kept.length = n := List.length_replicate ..
  rw [e]
  exact Lg.empty h (show0 (by omega) _ _) (show0 (by omega) _ _)
/-- A log is opened over an empty disk. -/
theorem open0_any (n gd gk : Nat) (w0 : World) (hn : 64 ≤ n) (hn2 : n ≤ 16384) (H0 : Hp w0 w0 (bl (dRows gd gk none 0 [] (⟨List.replicate n zero64, [], false, 0, n, []⟩ : Dk))) (dRows gd gk none 0 [] (⟨List.replicate n zero64, [], false, 0, n, []⟩ : Dk))) :
    Does Try.prog 18 #[.pointer (some ⟨gd, 0, none⟩)] w0 (fun r w' => ∃ m : Mw, r = .tuple #[.pointer (some ⟨m.gv, 0, none⟩), .int .i64 0] ∧ m.gd = gd ∧ WOk w' m (⟨List.replicate n zero64, [], false, 0, n, []⟩ : Dk) (Wl.anew 0 0 0) ∧ Hp w0 w' (bl (dRows gd gk none 0 [] (⟨List.replicate n zero64, [], false, 0, n, []⟩ : Dk))) (wRows m (⟨List.replicate n zero64, [], false, 0, n, []⟩ : Dk) (Wl.anew 0 0 0))) := by
  have hl := Lg.empty0 hn
  have e : ((⟨List.replicate n zero64, [], false, 0, n, []⟩ : Dk)).kept.length = n := List.length_replicate ..
  refine ((Rn.open_any gd gk none 0 [] (⟨List.replicate n zero64, [], false, 0, n, []⟩ : Dk) w0 H0 (newOk (by omega) hn2) rfl (by rw [e]; exact hn) (Nat.zero_le _) 0 0 0 [] ?_ (by decide) (by decide) (by rw [e]; omega) (fun k hk => absurd hk (by simp)) (Nat.zero_le _) (Nat.zero_le _) (fun b hb => by cases hb) (by simp [used])).d (fun _ _ h => h)).mono ?_
  · have := hl.best
    exact congrArg Prod.snd this
  · rintro r w' ⟨m, h1, h4, _, _, _, h2, h3⟩
    exact ⟨m, h1, h4, h2, h3⟩
theorem app_free {D : Dk} {W : Wl} {b : Blk} {x : Int} {D' : Dk} {W' : Wl} {s : Nat} (h : Lg D.show D.kept.length W s) (hd : D.down = false) (hdead : W.dead = false) (ha : D.armed = 0) (hb : b.length ≤ 16384) (hroom : used W.recs + wgt b.length + 16 ≤ D.kept.length / 2) (hr : AppRes D W b x D' W') : x = 0 ∧ Lg D'.show D.kept.length W' s ∧ D'.down = false ∧ D'.armed = 0 ∧ W' = W.took D b ∧ D'.kept = D.kept ∧ D'.wait.length ≤ D.wait.length + 300 := by
  rcases app_law h hd hdead hr with ⟨h1, _⟩ | ⟨_, h1, _⟩ | ⟨_, _, h1, ⟨xs, hw, hl, _⟩, ⟨h2, h3, h4, h5, h6⟩ | ⟨_, h2, _⟩⟩
  · omega
  · omega
  · exact ⟨h2, h3, h4, h5 ha, h6, h1, by rw [hw, List.length_append]; omega⟩
  · omega
theorem pl31 : placesOf Try.prog 31 = some [(0, 1), (1, 1), (2, 1), (3, 1), (4, 1), (5, 1), (6, 1), (7, 1)] := by kernel_rfl
namespace Rn
attribute [local irreducible] Cd
set_option maxRecDepth 100000 in
set_option maxHeartbeats 4000000 in
theorem records_nil (w0 : World) :
    DoesP Try.prog 17 #[.pointer none] w0 (fun r w' => r = .slice none 0 0 ∧ Hp w0 w' [] []) (fun _ _ => False) := by
  refine does_of Try.func17 Try.ntmps17 rfl ?_
  change Run _ _ _ _ [.pointer none, undef, undef, undef, undef, undef, undef, undef, undef, undef, undef, undef, undef, undef, undef] _
  have H := Hp.refl w0
  refine run_seq ?_
  refine run_region rfl (fun _ _ h => h) ?_
  refine ops_val (ex_assign rfl) ?_
  refine ops_nil ?_
  change Run _ _ _ _ [_, _, _, _, _, _, _, _, _, _, _, _, _, _, _] _
  refine run_seq ?_
  refine run_region rfl (fun _ _ h => h) ?_
  refine ops_alloc ty29 H ?_
  intro w1 g3 H1 hg3
  refine ops_nil ?_
  change Run _ _ _ _ [_, _, _, _, _, _, _, _, _, _, _, _, _, _, _] _
  refine run_seq ?_
  refine run_seq ?_
  refine run_region rfl (fun _ _ h => h) ?_
  refine ops_val (ex_move rfl) ?_
  refine ops_call (ex_call gf20 rfl) (all_any (.pointer none) _ rfl) ?_
  rintro r w2 ⟨gb, hr, Hc⟩
  rw [hr]
  have H2 := H1.call0 Hc
  refine ops_nil ?_
  change Run _ _ _ _ [_, _, _, _, _, _, _, _, _, _, _, _, _, _, _] _
  refine run_block ?_
  have hgbl := H2.lt (i := 1) rfl
  have hg3l := H2.lt (i := 0) rfl
  have hne : g3 ≠ gb := H2.ne (i := 0) (j := 1) rfl rfl (by decide)
  have hsz := H2.size
  have hcb := H2.cell (i := 1) (o := 0) rfl rfl
  refine run_range (ps := [8, 9]) (gf := 53) (lb := [.pointer (some ⟨gb, 0, none⟩)]) (N := 0) (B := [gb]) Try.func17 rfl gf53
    (It := fun _ _ _ _ => False)
    (fun w1 Hw1 => all_iter_nil gb w1 _ (cell_toW hcb Hw1 (by simp)))
    (fun x hx => by rw [List.mem_singleton.1 hx]; exact hgbl)
    (fun k W1 O => O = bl [((some g3, 29, [.slice none 0 0]) : Ent)] ∧ Hp w0 W1 [] [((some g3, 29, [.slice none 0 0]) : Ent)])
    (fun _ _ => False) (fun _ _ => False)
    (bl [((some g3, 29, [.slice none 0 0]) : Ent)])
    (fun x hx hx2 => by
      have hx3 : x = g3 := by simpa [bl] using hx
      subst hx3
      exact hne (List.mem_singleton.1 hx2))
    (fun l args => l)
    (fun k W1 O hJ b hb => by
      obtain ⟨rfl, HJ⟩ := hJ
      exact bl_cells HJ b hb)
    (fun k W1 O W2 L hJ hL HL hnl => by
      obtain ⟨h1, HJ⟩ := hJ
      exact ⟨h1, HJ.loop HL hnl (by omega)⟩)
    (fun _ _ _ _ hx => hx.elim)
    (fun k W1 args G hI => hI.elim)
    ⟨rfl, H2.pick [0] (by decide)⟩ ?_ ?_ ?_ (fun _ _ _ hx => hx.elim) (fun _ _ _ hx => hx.elim)
  · rintro k W1 args G L hI
    exact hI.elim
  · rintro k W1 O args G L hk hJ hI
    exact hI.elim
  · rintro Dm W1 O ⟨rfl, HJ⟩ hDm hDl
    refine run_nil (blk_normal ?_)
    refine run_seq ?_
    refine run_region rfl (fun _ _ h => h) ?_
    refine ops_val (ex_load ty29 rfl (HJ.cell (i := 0) rfl rfl)) ?_
    refine ops_val (ex_assign rfl) ?_
    refine ops_nil ?_
    change Run _ _ _ _ [_, _, _, _, _, _, _, _, _, _, _, _, _, _, _] _
    refine run_ret ?_
    exact ⟨Dm, W1.putObj Dm (.deferred none), rfl, run_takeDeferred hDm, _, results_tmp1 rfl rfl, rfl, (HJ.loop (Hp.putO (.deferred none) hDm) (notc hDm) (by omega)).pick [] (by decide)⟩
end Rn
set_option maxRecDepth 100000 in
set_option maxHeartbeats 4000000 in
theorem begin_any (n : Nat) (w0 : World) (hn : 64 ≤ n) (hn2 : n ≤ 16384) :
    Does Try.prog 9 #[.int .i64 (n : Int)] w0 (fun r w' => ∃ (m : Mw) (gb : Nat), r = .pointer (some ⟨gb, 0, none⟩) ∧ BOk w' m (⟨List.replicate n zero64, [], false, 0, n, []⟩ : Dk) (Wl.anew 0 0 0) (⟨gb, none, 0, [], []⟩ : Mk) (⟨[], 0, 0, -1, 0⟩ : Bk) [] ∧ Hp w0 w' [] (bRows m (⟨List.replicate n zero64, [], false, 0, n, []⟩ : Dk) (Wl.anew 0 0 0) (⟨gb, none, 0, [], []⟩ : Mk) (⟨[], 0, 0, -1, 0⟩ : Bk))) := by
  refine does_of Try.func9 Try.ntmps9 rfl ?_
  change Run _ _ _ _ [.int .i64 (n : Int), undef, undef, undef, undef, undef, undef, undef, undef, undef, undef, undef, undef, undef, undef, undef, undef, undef, undef, undef, undef, undef, undef, undef, undef, undef, undef, undef, undef, undef, undef, undef, undef, undef, undef, undef, undef, undef, undef, undef, undef, undef, undef] _
  have H := Hp.refl w0
  refine run_seq ?_
  refine run_region ?_
  refine ops_val (ex_assign rfl) ?_
  refine ops_nil ?_
  change Run _ _ _ _ [_, _, _, _, _, _, _, _, _, _, _, _, _, _, _, _, _, _, _, _, _, _, _, _, _, _, _, _, _, _, _, _, _, _, _, _, _, _, _, _, _, _, _] _
  refine run_seq ?_
  refine run_region ?_
  refine ops_val (ex_move rfl) ?_
  refine ops_call (ex_call gf24 rfl) (newD_any n _ (by omega) (by omega)) ?_
  rintro _ w1 ⟨gd, gk, rfl, Hd⟩
  have H1 := (H.call0 Hd).pick [0, 1, 2] (by decide)
  refine ops_val (ex_move rfl) ?_
  refine ops_val (ex_extract rfl rfl) ?_
  refine nO43 ?_
  refine ops_val (ex_extract rfl rfl) ?_
  refine ops_val (ex_assign rfl) ?_
  refine ops_val (ex_assign rfl) ?_
  refine ops_nil ?_
  change Run _ _ _ _ [_, _, _, _, _, _, _, _, _, _, _, _, _, _, _, _, _, _, _, _, _, _, _, _, _, _, _, _, _, _, _, _, _, _, _, _, _, _, _, _, _, _, _] _
  refine run_seq ?_
  refine run_region ?_
  refine ops_val (ex_move rfl) ?_
  refine ops_call (ex_call gf18 rfl) (open0_any n gd gk _ (by omega) (by omega) H1.here) ?_
  rintro r w2 ⟨m, hr, hgd, hok, Hc⟩
  rw [hr]
  subst hgd
  have H2 := (H1.callr [0, 1, 2] rfl Hc).pick [3, 4, 5, 6, 7, 8] (by decide)
  refine ops_val (ex_move rfl) ?_
  refine ops_val (ex_extract rfl rfl) ?_
  refine nO43 ?_
  refine ops_val (ex_extract rfl rfl) ?_
  refine ops_val (ex_assign rfl) ?_
  refine ops_val (ex_assign rfl) ?_
  refine ops_nil ?_
  change Run _ _ _ _ [_, _, _, _, _, _, _, _, _, _, _, _, _, _, _, _, _, _, _, _, _, _, _, _, _, _, _, _, _, _, _, _, _, _, _, _, _, _, _, _, _, _, _] _
  refine run_seq ?_
  refine run_seq ?_
  refine run_region ?_
  refine ops_val (ex_move rfl) ?_
  refine ops_false (ex_neq rfl rfl) (by decide) ?_
  refine ops_val (ex_move rfl) ?_
  refine nO43 ?_
  refine ops_yes rfl ?_
  refine ops_val (ex_move rfl) ?_
  refine ops_yes rfl ?_
  refine ops_false (ex_eql_nil_ptr Try.underlying28 rfl) (by simp) ?_
  refine ops_val (ex_pick_f rfl rfl) ?_
  refine ops_val (ex_move rfl) ?_
  refine nO43 ?_
  refine ops_yes rfl ?_
  refine ops_val (ex_move rfl) ?_
  refine ops_yes rfl ?_
  refine ops_call_eq (ex_call gf19 rfl) (first_p m.gv 0 _ (H2.cell (i := 3) rfl rfl)) ?_
  refine nO43 ?_
  refine ops_yes rfl ?_
  refine ops_false (ex_neq rfl rfl) (by decide) ?_
  refine ops_val (ex_pick_f rfl rfl) ?_
  refine ops_val (ex_move rfl) ?_
  refine nO43 ?_
  refine ops_yes rfl ?_
  refine ops_val (ex_move rfl) ?_
  refine ops_yes rfl ?_
  refine ops_call_val (ex_call gf15 rfl) (next_any m.gv 0 0 m.cr (hd m.gr) _ (H2.cell (i := 3) rfl rfl) (H2.cell (i := 3) rfl rfl) (by simp)) ?_
  intro w3 Hd
  have H3 := (H2.call0 Hd).pick [0, 1, 2, 3, 4, 5] (by decide)
  refine nO43 ?_
  refine ops_yes rfl ?_
  refine ops_false (ex_neq rfl rfl) (by decide) ?_
  refine ops_val (ex_pick_f rfl rfl) ?_
  refine ops_val (ex_move rfl) ?_
  refine nO43 ?_
  refine ops_yes rfl ?_
  refine ops_val (ex_move rfl) ?_
  refine ops_yes rfl ?_
  refine ops_call (ex_call gf17 rfl) ((Rn.records_any m (⟨List.replicate n zero64, [], false, 0, n, []⟩ : Dk) (Wl.anew 0 0 0) _ (H3.pick [0, 1, 2, 3, 4, 5] (by decide)).here ({ hok with lst := ⟨hok.lst.1, fun i hi => absurd hi (by simp)⟩ })).d (fun _ _ hx => hx)) ?_
  rintro r w4 ⟨g, cap, ys, sp, hr, hcap, hcs, hgn, hown, hsep, Hc⟩
  rw [hr]
  have H4 := (H3.call0 Hc).pick [0, 1, 2, 3, 4, 5] (by decide)
  refine nO43 ?_
  refine ops_yes rfl ?_
  refine ops_val (ex_len_slice Try.underlying29 rfl) ?_
  refine ops_yes rfl ?_
  refine ops_false (ex_neq rfl rfl) (by simp) ?_
  refine ops_val (ex_pick_f rfl rfl) ?_
  refine ops_nil ?_
  change Run _ _ _ _ [_, _, _, _, _, _, _, _, _, _, _, _, _, _, _, _, _, _, _, _, _, _, _, _, _, _, _, _, _, _, _, _, _, _, _, _, _, _, _, _, _, _, _] _
  refine run_cond_false rfl ?_
  refine run_skip ?_
  refine run_seq ?_
  refine run_region ?_
  refine ops_val (ex_move rfl) ?_
  refine ops_val (ex_move rfl) ?_
  refine ops_val (ex_build ty31 pl31 rfl rfl) ?_
  refine ops_box rfl rfl H4 ?_
  intro w5 gb H5 hgb
  have HN7 := H5.nil 34
  have hE : ∀ es : List Ent, Lsw w5 es m.xs (Wl.anew 0 0 0).recs := fun es => ⟨hok.lst.1, fun i hi => absurd hi (by simp)⟩
  have hok2 : WOk w5 m (⟨List.replicate n zero64, [], false, 0, n, []⟩ : Dk) (Wl.anew 0 0 0) := { hok with lst := hE _ }
  refine nO43 ?_
  refine ops_val (ex_assign rfl) ?_
  refine ops_nil ?_
  change Run _ _ _ _ [_, _, _, _, _, _, _, _, _, _, _, _, _, _, _, _, _, _, _, _, _, _, _, _, _, _, _, _, _, _, _, _, _, _, _, _, _, _, _, _, _, _, _] _
  refine run_ret ?_
  refine fin_ret1 rfl rfl ?_
  exact ⟨m, gb, rfl, ⟨hok2, hE _, Lsw.nil _ _, Nat.zero_le _, Nat.zero_le _, fun _ => rfl, Nat.zero_le _, fun b hb => (by cases hb)⟩, HN7.pick [0, 1, 2, 3, 4, 5, 6, 7] (by decide)⟩
set_option maxRecDepth 100000 in
set_option maxHeartbeats 4000000 in
theorem awake_any (w0 : World) :
    Does Try.prog 10 #[] w0 (fun r w' => r = .bool true ∧ Hp w0 w' [] []) := by
  refine does_of Try.func10 Try.ntmps10 rfl ?_
  change Run _ _ _ _ [undef, undef, undef, undef, undef, undef, undef, undef, undef, undef, undef, undef, undef, undef, undef, undef, undef, undef, undef, undef, undef, undef, undef, undef, undef, undef, undef, undef, undef, undef, undef, undef, undef, undef, undef, undef, undef] _
  have H := Hp.refl w0
  refine run_seq ?_
  refine run_region ?_
  refine ops_val (ex_assign rfl) ?_
  refine ops_nil ?_
  change Run _ _ _ _ [_, _, _, _, _, _, _, _, _, _, _, _, _, _, _, _, _, _, _, _, _, _, _, _, _, _, _, _, _, _, _, _, _, _, _, _, _] _
  refine run_seq ?_
  refine run_region ?_
  refine ops_call (ex_call gf24 rfl) (newD_any 64 _ (by omega) (by omega)) ?_
  rintro _ w1 ⟨gd, gk, rfl, Hd⟩
  have H1 := (H.call0 Hd).pick [0, 1, 2] (by decide)
  refine ops_val (ex_move rfl) ?_
  refine ops_val (ex_extract rfl rfl) ?_
  refine ops_val (ex_extract rfl rfl) ?_
  refine nO37 ?_
  refine ops_val (ex_assign rfl) ?_
  refine ops_val (ex_assign rfl) ?_
  refine ops_nil ?_
  change Run _ _ _ _ [_, _, _, _, _, _, _, _, _, _, _, _, _, _, _, _, _, _, _, _, _, _, _, _, _, _, _, _, _, _, _, _, _, _, _, _, _] _
  refine run_seq ?_
  refine run_region ?_
  refine ops_val (ex_move rfl) ?_
  refine ops_call (ex_call gf18 rfl) (open0_any 64 gd gk _ (by omega) (by omega) H1.here) ?_
  rintro r w2 ⟨m, hr, hgd, hok, Hc⟩
  rw [hr]
  subst hgd
  have H2 := (H1.callr [0, 1, 2] rfl Hc).pick [3, 4, 5, 6, 7, 8] (by decide)
  refine ops_val (ex_move rfl) ?_
  refine ops_val (ex_extract rfl rfl) ?_
  refine nO37 ?_
  refine ops_val (ex_extract rfl rfl) ?_
  refine ops_val (ex_assign rfl) ?_
  refine ops_val (ex_assign rfl) ?_
  refine ops_nil ?_
  change Run _ _ _ _ [_, _, _, _, _, _, _, _, _, _, _, _, _, _, _, _, _, _, _, _, _, _, _, _, _, _, _, _, _, _, _, _, _, _, _, _, _] _
  refine run_seq ?_
  refine run_region ?_
  refine ops_val (ex_move rfl) ?_
  refine ops_true (ex_eql rfl rfl) (by decide) ?_
  refine ops_val (ex_move rfl) ?_
  refine nO37 ?_
  refine ops_yes rfl ?_
  refine ops_val (ex_move rfl) ?_
  refine ops_yes rfl ?_
  refine ops_true (ex_neq_nil_ptr Try.underlying28 rfl) (by simp) ?_
  refine ops_val (ex_pick_t rfl rfl) ?_
  refine ops_val (ex_move rfl) ?_
  refine nO37 ?_
  refine ops_yes rfl ?_
  refine ops_val (ex_move rfl) ?_
  refine ops_yes rfl ?_
  refine ops_buildSlice Try.underlying34 ty5 H2 (cs := [.int .u8 5]) rfl (by decide) rfl ?_
  intro w3 g22 H3 hg22
  refine nO37 ?_
  refine ops_yes rfl ?_
  refine ops_call (ex_call gf11 rfl) (append_any m (⟨List.replicate 64 zero64, [], false, 0, 64, []⟩ : Dk) (Wl.anew 0 0 0) _ (H3.pick [0, 1, 2, 3, 4, 5] (by decide)).here { hok with lst := ⟨hok.lst.1, fun i hi => absurd hi (by simp)⟩ } (hd (some g22)) [5] 1 (H3.rd (i := 6) (o := some g22) (xs := [.int .u8 5]) (sp := []) rfl rfl (by decide)) (fun _ p hp hx => by simp only [hd, Option.map_some, Option.some.injEq] at hp; subst hp; exact row_not H3 (i := 6) rfl (is := [0, 1, 2, 3, 4, 5]) (by decide) hx) (by decide) (by decide)) ?_
  rintro r w4 ⟨x, D1, W1, hr, hres, m1, e1, e2, e3, hxs, hok1, Hc⟩
  rw [hr]
  obtain ⟨hx0, _, _, _, hW1, _, _⟩ := app_free (Lg.empty0 (n := 64) (by decide)) rfl rfl rfl (by decide) (by decide) hres
  subst hx0 hW1
  have H4 := (H3.callr [0, 1, 2, 3, 4, 5] rfl Hc).pick [7, 8, 9, 10, 11, 12] (by decide)
  refine ops_yes rfl ?_
  refine ops_true (ex_eql rfl rfl) (rfl) ?_
  refine ops_val (ex_pick_t rfl rfl) ?_
  refine ops_val (ex_move rfl) ?_
  refine nO37 ?_
  refine ops_yes rfl ?_
  refine ops_val (ex_move rfl) ?_
  refine ops_yes rfl ?_
  rw [← e3]
  refine ops_call_val (ex_call gf15 rfl) (next_any m1.gv 0 1 m1.cr (hd m1.gr) _ (H4.cell (i := 3) rfl rfl) (H4.cell (i := 3) rfl rfl) (by simp)) ?_
  intro w5 Hd
  replace hok1 := hok1.to (rows0 (Hp.here H4) Hd)
  have H5 := (H4.call0 Hd).pick [0, 1, 2, 3, 4, 5] (by decide)
  refine nO37 ?_
  refine ops_yes rfl ?_
  refine ops_true (ex_eql rfl rfl) (by decide) ?_
  refine ops_val (ex_pick_t rfl rfl) ?_
  refine ops_val (ex_move rfl) ?_
  refine nO37 ?_
  refine ops_yes rfl ?_
  refine ops_val (ex_move rfl) ?_
  refine ops_yes rfl ?_
  refine ops_call (ex_call gf17 rfl) ((Rn.records_any m1 D1 ((Wl.anew 0 0 0).took (⟨List.replicate 64 zero64, [], false, 0, 64, []⟩ : Dk) [5]) _ (H5.pick [0, 1, 2, 3, 4, 5] (by decide)).here (hok1)).d (fun _ _ hx => hx)) ?_
  rintro r w6 ⟨g, cap, ys, sp, hr, hcap, hcs, hgn, hown, hsep, Hc⟩
  rw [hr]
  have H6 := (H5.call0 Hc).pick [0, 1, 2, 3, 4, 5] (by decide)
  refine nO37 ?_
  refine ops_yes rfl ?_
  refine ops_val (ex_len_slice Try.underlying29 rfl) ?_
  refine ops_yes rfl ?_
  refine ops_true (ex_eql rfl rfl) (by decide) ?_
  refine ops_val (ex_pick_t rfl rfl) ?_
  refine ops_val (ex_assign rfl) ?_
  refine ops_nil ?_
  change Run _ _ _ _ [_, _, _, _, _, _, _, _, _, _, _, _, _, _, _, _, _, _, _, _, _, _, _, _, _, _, _, _, _, _, _, _, _, _, _, _, _] _
  refine run_ret ?_
  refine fin_ret1 rfl rfl ?_
  exact ⟨rfl, H6.pick [] (by decide)⟩
end Go.Proofs.Ytgkciibfpenjpaa
