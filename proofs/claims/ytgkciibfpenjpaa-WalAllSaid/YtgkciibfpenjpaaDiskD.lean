/- Walks of layer 2, printed by wip/gen/codec.py. -/
import Derived.Test.YtgkciibfpenjpaaNrm
import Derived.Test.YtgkciibfpenjpaaDiskC
namespace Go.Proofs.Ytgkciibfpenjpaa
open Go Go.RowKit
set_option linter.unusedVariables false
attribute [local irreducible] Still Ops Does Cd
set_option maxRecDepth 100000 in
set_option maxHeartbeats 4000000 in
theorem read_any (gd gk : Nat) (gw : Option Nat) (cw : Nat) (sp : List Value) (D : Dk) (w0 : World) (H0 : Hp w0 w0 (bl (dRows gd gk gw cw sp D)) (dRows gd gk gw cw sp D)) (hD : DOk D gw cw sp) (a : Int) (hm : D.wait.length ≤ 2932000000000) :
    Does Try.prog 50 #[.pointer (some ⟨gd, 0, none⟩), .int .i64 a] w0 (fun r w' => ∃ g cap s, r = .tuple #[.slice (hd g) (D.read a).1.length cap, .int .i64 ((D.read a).2 : Int)] ∧ (D.read a).1.length ≤ cap ∧ cap * 1 ≤ (u8s (D.read a).1 ++ s).length ∧ (g = none → cap = 0) ∧ Hp w0 w' (bl (dRows gd gk gw cw sp D)) (dRows gd gk gw cw sp D ++ [(g, 5, u8s (D.read a).1 ++ s)])) := by
  refine does_of Try.func50 Try.ntmps50 rfl ?_
  refine nR62 ?_
  have H := H0
  obtain ⟨hpos, hmost, hk64, hw64, hwcap, hcap, hnil, harm⟩ := hD
  have hD : DOk D gw cw sp := ⟨hpos, hmost, hk64, hw64, hwcap, hcap, hnil, harm⟩
  refine run_seq ?_
  refine run_region ?_
  refine ops_val (ex_assign rfl) ?_
  refine ops_val (ex_assign rfl) ?_
  refine ops_nil ?_
  refine nR62 ?_
  refine run_seq ?_
  refine run_seq ?_
  refine run_region ?_
  refine ops_val (ex_move rfl) ?_
  refine ops_call_val (ex_call gf59 rfl) (ready_any gd gk gw cw sp D _ H.here hD) ?_
  intro w1 Hd
  have H1 := (H.callr [0, 1, 2] rfl Hd).pick [3, 4, 5] (by decide)
  refine ops_val (ex_assign rfl) ?_
  refine ops_nil ?_
  refine nR62 ?_
  refine run_seq ?_
  refine run_region ?_
  refine ops_val (ex_move rfl) ?_
  refine ops_test (ex_neq rfl rfl) (fun hp12 => ?_) (fun hp12 => ?_)
  · have hdn : D.down = true := by
      by_cases h : D.down = true
      · exact h
      · rw [if_neg h] at hp12; omega
    refine ops_nil ?_
    refine nR62 ?_
    refine run_cond_true rfl ?_
    refine run_seq ?_
    refine run_region ?_
    refine ops_val (ex_move rfl) ?_
    refine ops_val (ex_assign rfl) ?_
    refine ops_val (ex_assign rfl) ?_
    refine ops_nil ?_
    refine nR62 ?_
    refine run_ret ?_
    refine fin_ret2 rfl rfl rfl ?_
    have hs : D.read a = ([], 40) := if_pos hdn
    rw [hs, if_pos hdn]
    exact ⟨none, 0, [], rfl, Nat.le_refl _, by simp, fun _ => rfl, H1.nil 5⟩
  · have hdn : ¬ D.down = true := fun h => by rw [if_pos h] at hp12; omega
    refine ops_nil ?_
    refine nR62 ?_
    refine run_cond_false rfl ?_
    refine run_skip ?_
    refine run_seq ?_
    refine run_seq ?_
    refine run_region ?_
    refine ops_val (ex_move rfl) ?_
    refine ops_test (ex_lss rfl rfl) (fun hp15 => ?_) (fun hp15 => ?_)
    · skip
      refine ops_val (ex_move rfl) ?_
      refine nO62 ?_
      refine ops_no rfl ?_
      refine ops_no rfl ?_
      refine nO62 ?_
      refine ops_no rfl ?_
      refine ops_no rfl ?_
      refine nO62 ?_
      refine ops_no rfl ?_
      refine ops_no rfl ?_
      refine nO62 ?_
      refine ops_no rfl ?_
      refine ops_val (ex_pick_t rfl rfl) ?_
      refine ops_nil ?_
      refine nR62 ?_
      refine run_cond_true rfl ?_
      refine run_seq ?_
      refine run_region ?_
      refine ops_val (ex_assign rfl) ?_
      refine ops_val (ex_assign rfl) ?_
      refine ops_nil ?_
      refine nR62 ?_
      refine run_ret ?_
      refine fin_ret2 rfl rfl rfl ?_
      have hs : D.read a = ([], 41) := by unfold Dk.read; rw [if_neg hdn, if_pos (by omega)]
      rw [hs]
      exact ⟨none, 0, [], rfl, Nat.le_refl _, by simp, fun _ => rfl, H1.nil 5⟩
    · obtain ⟨nb, rfl⟩ := Int.eq_ofNat_of_zero_le (show 0 ≤ a by omega)
      refine ops_val (ex_move rfl) ?_
      refine nO62 ?_
      refine ops_yes rfl ?_
      refine ops_val (ex_move rfl) ?_
      refine ops_yes rfl ?_
      refine ops_val (ex_move rfl) ?_
      refine nO62 ?_
      refine ops_yes rfl ?_
      refine ops_val (ex_nilCheck rfl) ?_
      refine ops_yes rfl ?_
      refine ops_val (ex_fieldAddr fl90_0 rfl) ?_
      refine nO62 ?_
      refine ops_yes rfl ?_
      refine ops_val (ex_load ty84 rfl (H1.cell (i := 0) rfl rfl)) ?_
      refine ops_yes rfl ?_
      refine ops_val (ex_len_slice Try.underlying84 rfl) ?_
      refine nO62 ?_
      refine ops_yes rfl ?_
      refine ops_test (ex_geq rfl rfl) (fun hp23 => ?_) (fun hp23 => ?_)
      · skip
        refine ops_val (ex_pick_f rfl rfl) ?_
        refine ops_nil ?_
        refine nR62 ?_
        refine run_cond_true rfl ?_
        refine run_seq ?_
        refine run_region ?_
        refine ops_val (ex_assign rfl) ?_
        refine ops_val (ex_assign rfl) ?_
        refine ops_nil ?_
        refine nR62 ?_
        refine run_ret ?_
        refine fin_ret2 rfl rfl rfl ?_
        have hs : D.read (nb : Int) = ([], 41) := by unfold Dk.read; rw [if_neg hdn, if_pos (by omega)]
        rw [hs]
        exact ⟨none, 0, [], rfl, Nat.le_refl _, by simp, fun _ => rfl, H1.nil 5⟩
      · have hn : nb < D.kept.length := by omega
        have hv64 : D.kept[nb].length = 64 := hk64 _ (List.getElem_mem hn)
        refine ops_val (ex_pick_f rfl rfl) ?_
        refine ops_nil ?_
        refine nR62 ?_
        refine run_cond_false rfl ?_
        refine run_skip ?_
        refine run_seq ?_
        refine run_region ?_
        refine ops_val (ex_move rfl) ?_
        refine ops_val (ex_nilCheck rfl) ?_
        refine ops_val (ex_fieldAddr fl90_0 rfl) ?_
        refine ops_val (ex_load ty84 rfl (H1.cell (i := 0) rfl rfl)) ?_
        refine nO62 ?_
        refine ops_val (ex_move rfl) ?_
        refine ops_val (ex_idx Try.underlying84 ty87 rfl rfl rfl hn rfl) ?_
        rw [addz]
        refine ops_val (ex_loadN ty87 rfl (vs := u8s D.kept[nb]) (by rw [u8s_length]; exact hv64) (cells_of H1 (i := 1) rfl (fun j u hu => getL (kc_get hk64 hn j u hu)))) ?_
        refine ops_alloc ty87 H1 ?_
        intro w2 g7 H2 hg7
        refine nO62 ?_
        refine ops_store ty87 H2 3 (vs := u8s D.kept[nb]) rfl rfl rfl rfl (by rw [u8s_length]; exact hv64) (by rw [u8s_length, hv64]; exact Nat.le_refl _) (u8s_one' _) ?_
        intro w3 H3
        change Hp _ _ _ [_, _, _, _] at H3
        rw [putAt_all (by rw [u8s_length, hv64]; rfl)] at H3
        refine ops_nil ?_
        refine nR62 ?_
        refine run_seq ?_
        refine run_seq ?_
        refine run_region ?_
        refine ops_val (ex_move rfl) ?_
        refine ops_val (ex_nilCheck rfl) ?_
        refine ops_val (ex_fieldAddr fl90_1 rfl) ?_
        refine ops_val (ex_load ty88 rfl (H3.cell (i := 0) rfl rfl)) ?_
        refine nO62 ?_
        refine ops_val (ex_len_slice Try.underlying88 rfl) ?_
        refine ops_val (ex_sub rfl rfl (IntWalk.i64_in _ (by omega))) ?_
        refine ops_val (ex_assign rfl) ?_
        refine ops_nil ?_
        refine nR62 ?_
        refine run_block ?_
        refine run_loop (fun n l w => ∃ (r : Nat) (y : Int), r = n ∧ Fits [some (.pointer (some ⟨gd, 0, none⟩)), some (.int .i64 (nb : Int)), none, none, none, none, none, some (.pointer (some ⟨g7, 0, none⟩)), some (.int .i64 y), none, none, none, none, none, none, none, none, none, none, none, none, none, none, none, none, none, none, none, none, none, none, none, none, none, none, none, none, none, none, none, none, none, none, none, none, none, none, none, none, none, none, none, none, none, none, none, none, none, none, none, none, none] l ∧ y = (r : Int) - 1 ∧ r ≤ D.wait.length ∧ (∀ p ∈ D.wait.drop r, p.1 ≠ nb) ∧ Hp w0 w (bl (dRows gd gk gw cw sp D)) [(some gd, 90, dcells gk gw D.kept.length D.kcap D.wait.length cw D.down D.armed), (some gk, 87, kc D.kept ++ D.ksp), (gw, 93, wc D.wait ++ sp), (some g7, 87, u8s (D.kept[nb]))]) (D.wait.length) ?_ ?_
        · exact ⟨D.wait.length, _, rfl, (fs (fs (fn (fn (fn (fn (fn (fs (fs (fn (fn (fn (fn (fn (fn (fn (fn (fn (fn (fn (fn (fn (fn (fn (fn (fn (fn (fn (fn (fn (fn (fn (fn (fn (fn (fn (fn (fn (fn (fn (fn (fn (fn (fn (fn (fn (fn (fn (fn (fn (fn (fn (fn (fn (fn (fn (fn (fn (fn (fn (fn (fn f0)))))))))))))))))))))))))))))))))))))))))))))))))))))))))))))), rfl, Nat.le_refl _, (fun p hp => by rw [List.drop_length] at hp; cases hp), H3⟩
        · rintro n l w4 ⟨r, y, rfl, hfit, rfl, hr, hno, H4⟩
          obtain ⟨j, rfl⟩ := hfit.open
          refine nR62 ?_
          clear hfit
          refine run_seq ?_
          refine run_seq ?_
          refine run_region ?_
          refine ops_val (ex_move rfl) ?_
          refine ops_test (ex_geq rfl rfl) (fun hp39 => ?_) (fun hp39 => ?_)
          · have hql : r - 1 < D.wait.length := by omega
            have hwq := hw64 D.wait[r - 1] (List.getElem_mem hql)
            obtain ⟨g8, rfl⟩ : ∃ x, gw = some x := by
              cases gw with
              | none => have := hnil rfl; omega
              | some x => exact ⟨x, rfl⟩
            refine ops_nil ?_
            refine nR62 ?_
            refine run_cond_true rfl ?_
            refine run_skip ?_
            refine run_seq ?_
            refine run_block ?_
            refine run_seq ?_
            refine run_region ?_
            refine ops_val (ex_move rfl) ?_
            refine ops_val (ex_nilCheck rfl) ?_
            refine ops_val (ex_fieldAddr fl90_1 rfl) ?_
            refine ops_val (ex_load ty88 rfl (H4.cell (i := 0) rfl rfl)) ?_
            refine nO62 ?_
            refine ops_val (ex_move rfl) ?_
            refine ops_val (ex_idx Try.underlying88 ty93 (i := r - 1) rfl rfl (by omega) hql rfl) ?_
            rw [addz]
            refine ops_val (ex_fieldAddr fl93_0 rfl) ?_
            refine ops_val (ex_load ty3 rfl (H4.cell (i := 2) rfl (getL (wc_get hw64 hql 0 _ rfl)))) ?_
            refine nO62 ?_
            refine ops_val (ex_move rfl) ?_
            refine ops_test (ex_eql rfl rfl) (fun hp51 => ?_) (fun hp51 => ?_)
            · have hshow : D.show nb = D.wait[r - 1].2 := by
                unfold Dk.show
                rw [List.getD_eq_getElem?_getD, flush_last hql hn (by omega) (by rw [show r - 1 + 1 = r by omega]; exact hno)]
                rfl
              refine ops_nil ?_
              refine nR62 ?_
              refine run_cond_true rfl ?_
              refine run_seq ?_
              refine run_region ?_
              refine ops_val (ex_move rfl) ?_
              refine ops_val (ex_nilCheck rfl) ?_
              refine ops_val (ex_fieldAddr fl90_1 rfl) ?_
              refine ops_val (ex_load ty88 rfl (H4.cell (i := 0) rfl rfl)) ?_
              refine nO62 ?_
              refine ops_val (ex_move rfl) ?_
              refine ops_val (ex_idx Try.underlying88 ty93 (i := r - 1) rfl rfl (by omega) hql rfl) ?_
              rw [addz]
              refine ops_val (ex_fieldAddr fl93_1 rfl) ?_
              refine ops_val (ex_loadN ty87 rfl (vs := u8s D.wait[r - 1].2) (by rw [u8s_length]; exact hwq.1) (cells_of H4 (i := 2) (o := (r - 1) * 65 + 1) rfl (fun j u hu => by rw [Nat.add_assoc]; exact getL (wc_get hw64 hql (1 + j) u (by rw [Nat.add_comm]; exact hu))))) ?_
              refine nO62 ?_
              refine ops_store ty87 H4 3 (vs := u8s D.wait[r - 1].2) rfl rfl rfl rfl (by rw [u8s_length]; exact hwq.1) (by rw [u8s_length, u8s_length, hwq.1, hv64]; exact Nat.le_refl _) (u8s_one' _) ?_
              intro w5 H5
              change Hp _ _ _ [_, _, _, _] at H5
              rw [putAt_all (by rw [u8s_length, u8s_length, hwq.1, hv64])] at H5
              refine ops_nil ?_
              refine nR62 ?_
              refine run_exit ?_
              refine blk_other rfl ?_
              refine rnd_exit ?_
              refine blk_exit ?_
              refine run_seq ?_
              refine run_region ?_
              refine ops_val (ex_allArr Try.underlying87 ty5 rfl (by decide)) ?_
              have hk := clone_any (some ⟨g7, 0, none⟩) (D.wait[r - 1].2) 64 w5 (H5.rd (i := 3) (o := some g7) (xs := u8s (D.wait[r - 1].2)) (sp := []) (by rw [List.append_nil]; rfl) (u8s_length1 _) (by decide)) (by rw [hwq.1]; decide)
              rw [← hshow] at hk
              have h64 : (D.show nb).length = 64 := by rw [hshow]; exact hwq.1
              rw [h64] at hk
              refine ops_call_own (ex_call gf40 rfl) hk ?_
              intro w6 g9 c9 s9 hm9 hc9 hg9 Hd
              have H6 := (H5.call0 Hd).pick [0, 1, 2, 4] (by decide)
              refine ops_val (ex_assign rfl) ?_
              refine ops_val (ex_assign rfl) ?_
              refine ops_nil ?_
              refine nR62 ?_
              refine run_ret ?_
              refine fin_ret2 rfl rfl rfl ?_
              have hs : D.read (nb : Int) = (D.show nb, 0) := by unfold Dk.read; rw [if_neg hdn, if_neg (by omega)]; rfl
              rw [hs]
              exact ⟨g9, c9, s9, rfl, hm9, hc9, hg9, H6⟩
            · skip
              refine ops_nil ?_
              refine nR62 ?_
              refine run_cond_false rfl ?_
              refine run_skip ?_
              refine run_nil (blk_normal ?_)
              refine run_region ?_
              refine ops_val (ex_move rfl) ?_
              refine ops_val (ex_sub rfl rfl (IntWalk.i64_in _ (by omega))) ?_
              refine ops_val (ex_assign rfl) ?_
              refine ops_nil ?_
              refine nR62 ?_
              refine run_nil (rnd_normal ?_)
              refine ⟨r - 1, by omega, r - 1, _, rfl, (fs (fs (fn (fn (fn (fn (fn (fs (fs (fn (fn (fn (fn (fn (fn (fn (fn (fn (fn (fn (fn (fn (fn (fn (fn (fn (fn (fn (fn (fn (fn (fn (fn (fn (fn (fn (fn (fn (fn (fn (fn (fn (fn (fn (fn (fn (fn (fn (fn (fn (fn (fn (fn (fn (fn (fn (fn (fn (fn (fn (fn (fn f0)))))))))))))))))))))))))))))))))))))))))))))))))))))))))))))), by omega, by omega, ?_, H4⟩
              intro p hp
              rw [List.drop_eq_getElem_cons hql, show r - 1 + 1 = r by omega] at hp
              rcases List.mem_cons.1 hp with h | h
              · rw [h]; omega
              · exact hno p h
          · have hr0 : r = 0 := by omega
            subst hr0
            have hshow : D.show nb = D.kept[nb] := by
              unfold Dk.show
              rw [List.getD_eq_getElem?_getD, flush_none (by simpa using hno), List.getElem?_eq_getElem hn]
              rfl
            refine ops_nil ?_
            refine nR62 ?_
            refine run_cond_false rfl ?_
            refine run_exit ?_
            refine rnd_exit ?_
            refine blk_exit ?_
            refine run_seq ?_
            refine run_region ?_
            refine ops_val (ex_allArr Try.underlying87 ty5 rfl (by decide)) ?_
            have hk := clone_any (some ⟨g7, 0, none⟩) (D.kept[nb]) 64 w4 (H4.rd (i := 3) (o := some g7) (xs := u8s (D.kept[nb])) (sp := []) (by rw [List.append_nil]; rfl) (u8s_length1 _) (by decide)) (by rw [hv64]; decide)
            rw [← hshow] at hk
            have h64 : (D.show nb).length = 64 := by rw [hshow]; exact hv64
            rw [h64] at hk
            refine ops_call_own (ex_call gf40 rfl) hk ?_
            intro w5 g9 c9 s9 hm9 hc9 hg9 Hd
            have H5 := (H4.call0 Hd).pick [0, 1, 2, 4] (by decide)
            refine ops_val (ex_assign rfl) ?_
            refine ops_val (ex_assign rfl) ?_
            refine ops_nil ?_
            refine nR62 ?_
            refine run_ret ?_
            refine fin_ret2 rfl rfl rfl ?_
            have hs : D.read (nb : Int) = (D.show nb, 0) := by unfold Dk.read; rw [if_neg hdn, if_neg (by omega)]; rfl
            rw [hs]
            exact ⟨g9, c9, s9, rfl, hm9, hc9, hg9, H5⟩
set_option maxRecDepth 100000 in
set_option maxHeartbeats 4000000 in
theorem crash_any (gd gk : Nat) (gw : Option Nat) (cw : Nat) (sp : List Value) (D : Dk) (w0 : World) (H0 : Hp w0 w0 (bl (dRows gd gk gw cw sp D)) (dRows gd gk gw cw sp D)) (hD : DOk D gw cw sp) (B : Option Addr) (keep : List Int) (c : Nat) (hr : Rd w0 B keep.length 1 (i64s keep)) (hsep : 0 < keep.length → ∀ p, B = some p → p.block ∉ bl (dRows gd gk gw cw sp D)) (hm : D.wait.length ≤ 2932000000000) :
    Does Try.prog 25 #[.pointer (some ⟨gd, 0, none⟩), .slice B keep.length c] w0 (fun r w' => r = .int .i64 0 ∧ DPost w0 w' (bl (dRows gd gk gw cw sp D)) gd gk (D.crash keep)) := by
  refine does_of Try.func25 Try.ntmps25 rfl ?_
  refine nR50 ?_
  have H := H0
  obtain ⟨hpos, hmost, hk64, hw64, hwcap, hcap, hnil, harm⟩ := hD
  have hD : DOk D gw cw sp := ⟨hpos, hmost, hk64, hw64, hwcap, hcap, hnil, harm⟩
  refine run_seq ?_
  refine run_region ?_
  refine ops_val (ex_assign rfl) ?_
  refine ops_nil ?_
  refine nR50 ?_
  refine run_seq ?_
  refine run_seq ?_
  refine run_region ?_
  refine ops_val (ex_move rfl) ?_
  refine ops_false (ex_eql_nil_ptr Try.underlying27 rfl) (by simp) ?_
  refine ops_nil ?_
  refine nR50 ?_
  refine run_cond_false rfl ?_
  refine run_skip ?_
  refine run_seq ?_
  refine run_seq ?_
  refine run_region ?_
  refine ops_val (ex_move rfl) ?_
  refine ops_val (ex_nilCheck rfl) ?_
  refine ops_val (ex_fieldAddr fl90_1 rfl) ?_
  refine ops_val (ex_load ty88 rfl (H.cell (i := 0) rfl rfl)) ?_
  refine nO50 ?_
  refine ops_val (ex_len_slice Try.underlying88 rfl) ?_
  refine ops_val (ex_move rfl) ?_
  refine ops_nil ?_
  refine nR50 ?_
  refine run_block ?_
  refine run_loop (fun n l w => ∃ (q : Nat) (y : Int) (ks : List Blk), D.wait.length - q = n ∧ Fits [some (.pointer (some ⟨gd, 0, none⟩)), some (.slice B keep.length c), none, none, none, none, none, none, none, none, none, none, none, some (.slice (hd gw) D.wait.length cw), some (.int .i64 D.wait.length), some (.int .i64 y), none, none, none, none, none, none, none, none, none, none, none, none, none, none, none, none, none, none, none, none, none, none, none, none, none, none, none, none, none, none, none, none, none, none] l ∧ y = q ∧ q ≤ D.wait.length ∧ ks = tears D.kept D.wait keep q ∧ Hp w0 w (bl (dRows gd gk gw cw sp D)) (dRows gd gk gw cw sp { D with kept := ks })) (D.wait.length) ?_ ?_
  · exact ⟨0, _, _, rfl, (fs (fs (fn (fn (fn (fn (fn (fn (fn (fn (fn (fn (fn (fs (fs (fs (fn (fn (fn (fn (fn (fn (fn (fn (fn (fn (fn (fn (fn (fn (fn (fn (fn (fn (fn (fn (fn (fn (fn (fn (fn (fn (fn (fn (fn (fn (fn (fn (fn (fn f0)))))))))))))))))))))))))))))))))))))))))))))))))), rfl, Nat.zero_le _, rfl, H⟩
  · rintro n l w1 ⟨q, y, ks, rfl, hfit, rfl, hq, hks, H1⟩
    obtain ⟨j, rfl⟩ := hfit.open
    refine nR50 ?_
    clear hfit
    have hkl : ks.length = D.kept.length := by rw [hks, tears_length]
    have hk6 : ∀ b ∈ ks, b.length = 64 := by rw [hks]; exact tears_64 hk64 hw64 _
    refine run_seq ?_
    refine run_region ?_
    refine ops_test (ex_lss rfl rfl) (fun hp16 => ?_) (fun hp16 => ?_)
    · have hql : q < D.wait.length := by omega
      have hwq := hw64 D.wait[q] (List.getElem_mem hql)
      obtain ⟨g7, rfl⟩ : ∃ x, gw = some x := by
        cases gw with
        | none => have := hnil rfl; omega
        | some x => exact ⟨x, rfl⟩
      have hcl : (wcell D.wait[q]).length = 65 := wcell_length hwq.1
      have hcle := clampK_le keep q
      refine ops_nil ?_
      refine nR50 ?_
      refine run_seq ?_
      refine run_cond_true rfl ?_
      refine run_skip ?_
      refine run_seq ?_
      refine run_block ?_
      refine run_seq ?_
      refine run_region ?_
      refine ops_val (ex_move rfl) ?_
      refine ops_val (ex_idx Try.underlying88 ty93 rfl rfl rfl hql rfl) ?_
      rw [addz]
      refine ops_val (ex_loadN ty93 rfl (vs := wcell D.wait[q]) hcl (cells_of H1 (i := 2) rfl (fun j u hu => getL (wc_get hw64 hql j u hu)))) ?_
      refine ops_alloc ty93 H1 ?_
      intro w2 g2 H2 hg2
      refine nO50 ?_
      refine ops_val (ex_assign rfl) ?_
      refine ops_store ty93 H2 3 rfl rfl rfl (by simp [Value.cells]) hcl (by rw [hcl]; decide) (wcell_one' _ _) ?_
      intro w3 H3
      change Hp _ _ _ [_, _, _, _] at H3
      rw [putAt_all (by rw [hcl]; rfl)] at H3
      refine ops_nil ?_
      refine nR50 ?_
      refine run_seq ?_
      refine run_region ?_
      refine ops_val (ex_assign rfl) ?_
      refine ops_nil ?_
      refine nR50 ?_
      refine run_seq ?_
      refine run_seq ?_
      refine run_region ?_
      refine ops_val (ex_move rfl) ?_
      refine ops_val (ex_move rfl) ?_
      refine ops_val (ex_len_slice Try.underlying22 rfl) ?_
      refine ops_test (ex_lss rfl rfl) (fun hp23 => ?_) (fun hp23 => ?_)
      · have hqk : q < keep.length := by omega
        obtain ⟨kb, rfl⟩ := hr.some_ (by omega)
        have hck : min (max keep[q] 0) 64 = ((clampK keep q : Nat) : Int) := by unfold clampK; rw [List.getD_eq_getElem?_getD, List.getElem?_eq_getElem hqk, Option.getD_some]; omega
        refine ops_nil ?_
        refine nR50 ?_
        refine run_cond_true rfl ?_
        refine run_region ?_
        refine ops_val (ex_move rfl) ?_
        refine ops_val (ex_move rfl) ?_
        refine ops_val (ex_idx Try.underlying22 ty3 rfl rfl rfl hqk (Nat.mul_one _)) ?_
        refine ops_val (ex_load ty3 rfl ((hr.to H3 (hsep (by omega))).cells kb rfl q _ (i64s_get hqk))) ?_
        refine nO50 ?_
        refine ops_val (ex_max rfl rfl) ?_
        refine ops_val (ex_min rfl rfl) ?_
        rw [hck]
        refine ops_val (ex_assign rfl) ?_
        refine ops_nil ?_
        refine nR50 ?_
        refine run_mixZ 12 [(true, 0), (true, 1), (true, 2), (true, 3), (true, 4), (true, 5), (true, 6), (true, 7), (true, 8), (true, 9), (true, 10), (true, 11), (false, 12)] H3 [0, 3] mixed (by decide) (by kernel_rfl) ?_
        rintro w4 hw4
        have H4 := Hp.drew H3; rw [← hw4] at H4
        refine mixz_p rfl ?_
        refine mix1_val (fun wz hz => ex_move rfl) ?_
        refine mixz_p rfl ?_
        refine mix1_val (fun wz hz => ex_nilCheck rfl) ?_
        refine mixz_p rfl ?_
        refine mix1_val (fun wz hz => ex_fieldAddr fl90_0 rfl) ?_
        refine mixz_p rfl ?_
        refine mix1_val (fun wz hz => ex_load ty84 rfl (hz.cell (i := 0) rfl rfl)) ?_
        refine nZ50 ?_
        refine mixz_p rfl ?_
        refine mix1_val (fun wz hz => ex_fieldAddr fl93_0 rfl) ?_
        refine mixz_p rfl ?_
        refine mix1_val (fun wz hz => ex_load ty3 rfl ((hz.cell (i := 1) rfl (show (wcell D.wait[q])[0]? = _ from rfl)))) ?_
        refine mixz_p rfl ?_
        refine mix1_val (fun wz hz => ex_idx Try.underlying84 ty87 rfl rfl rfl (show D.wait[q].1 < ks.length by omega) rfl) ?_
        rw [addz]
        refine mixz_p rfl ?_
        refine mix1_val (fun wz hz => ex_move rfl) ?_
        refine nZ50 ?_
        refine mixz_p rfl ?_
        refine mix1_val (fun wz hz => ex_cutArr Try.underlying87 ty5 rfl rfl (by omega) (by decide)) ?_
        refine mixz_p rfl ?_
        refine mix1_val (fun wz hz => ex_fieldAddr fl93_1 rfl) ?_
        refine mixz_p rfl ?_
        refine mix1_val (fun wz hz => ex_move rfl) ?_
        refine mixz_p rfl ?_
        refine mix1_val (fun wz hz => ex_cutArr Try.underlying87 ty5 rfl rfl (by omega) (by decide)) ?_
        refine nZ50 ?_
        refine mixz_o rfl ?_
        have hcpl : (D.wait[q].2.take (clampK keep q)).length = clampK keep q := by rw [List.length_take]; omega
        refine ops_copy Try.underlying34 ty5 H4 1 (vs := u8s (D.wait[q].2.take (clampK keep q))) rfl rfl rfl (by rw [u8s_length, hcpl]; rfl) (cells_of H4 (i := 3) (o := 1) rfl (fun j u hu => ?_)) (show _ ≤ (kc ks ++ D.ksp).length by rw [List.length_append, kc_length hk6, Int.toNat_natCast]; omega) (u8s_one' _) ?_
        · rw [u8s_take, List.getElem?_take] at hu
          split at hu
          · rw [Nat.add_comm]; exact hu
          · cases hu
        intro w5 H5
        change Hp _ _ _ [_, _, _, _] at H5
        rw [kc_partA hk6 (by omega) (by omega), hcpl] at H5
        refine ops_nil ?_
        refine ⟨fun hne => absurd rfl hne, ?_⟩
        refine nZ50 ?_
        refine mixz_nil ?_
        refine nR50 ?_
        refine run_nil (blk_normal ?_)
        refine run_region ?_
        refine ops_val (ex_add rfl rfl (IntWalk.i64_in _ (by omega))) ?_
        refine ops_val (ex_move rfl) ?_
        refine ops_nil ?_
        refine nR50 ?_
        refine run_nil (rnd_normal ?_)
        have hks2 : ks.set D.wait[q].1 (D.wait[q].2.take (clampK keep q) ++ (ks.getD D.wait[q].1 []).drop (clampK keep q)) = tears D.kept D.wait keep (q + 1) := by simp only [tears]; rw [List.getElem?_eq_getElem hql, hks]
        refine ⟨D.wait.length - (q + 1), by omega, q + 1, _, ks.set D.wait[q].1 (D.wait[q].2.take (clampK keep q) ++ (ks.getD D.wait[q].1 []).drop (clampK keep q)), rfl, (fs (fs (fn (fn (fn (fn (fn (fn (fn (fn (fn (fn (fn (fs (fs (fs (fn (fn (fn (fn (fn (fn (fn (fn (fn (fn (fn (fn (fn (fn (fn (fn (fn (fn (fn (fn (fn (fn (fn (fn (fn (fn (fn (fn (fn (fn (fn (fn (fn (fn f0)))))))))))))))))))))))))))))))))))))))))))))))))), rfl, by omega, hks2, ?_⟩
        have HF := H5.pick [0, 1, 2] (by decide)
        simp only [dRows, List.length_set]
        exact HF
      · have hck : (0 : Int) = ((clampK keep q : Nat) : Int) := by unfold clampK; rw [List.getD_eq_getElem?_getD, List.getElem?_eq_none (by omega)]; rfl
        refine ops_nil ?_
        refine nR50 ?_
        refine run_cond_false rfl ?_
        refine run_skip ?_
        refine run_mixZ 12 [(true, 0), (true, 1), (true, 2), (true, 3), (true, 4), (true, 5), (true, 6), (true, 7), (true, 8), (true, 9), (true, 10), (true, 11), (false, 12)] H3 [0, 3] mixed (by decide) (by kernel_rfl) ?_
        rintro w4 hw4
        have H4 := Hp.drew H3; rw [← hw4] at H4
        refine mixz_p rfl ?_
        refine mix1_val (fun wz hz => ex_move rfl) ?_
        refine mixz_p rfl ?_
        refine mix1_val (fun wz hz => ex_nilCheck rfl) ?_
        refine mixz_p rfl ?_
        refine mix1_val (fun wz hz => ex_fieldAddr fl90_0 rfl) ?_
        refine mixz_p rfl ?_
        refine mix1_val (fun wz hz => ex_load ty84 rfl (hz.cell (i := 0) rfl rfl)) ?_
        refine nZ50 ?_
        refine mixz_p rfl ?_
        refine mix1_val (fun wz hz => ex_fieldAddr fl93_0 rfl) ?_
        refine mixz_p rfl ?_
        refine mix1_val (fun wz hz => ex_load ty3 rfl ((hz.cell (i := 1) rfl (show (wcell D.wait[q])[0]? = _ from rfl)))) ?_
        refine mixz_p rfl ?_
        refine mix1_val (fun wz hz => ex_idx Try.underlying84 ty87 rfl rfl rfl (show D.wait[q].1 < ks.length by omega) rfl) ?_
        rw [addz]
        refine mixz_p rfl ?_
        refine mix1_val (v := .int .i64 ((clampK keep q : Nat) : Int)) (fun wz hz => ex_move (by rw [← hck]; rfl)) ?_
        refine nZ50 ?_
        refine mixz_p rfl ?_
        refine mix1_val (fun wz hz => ex_cutArr Try.underlying87 ty5 rfl rfl (by omega) (by decide)) ?_
        refine mixz_p rfl ?_
        refine mix1_val (fun wz hz => ex_fieldAddr fl93_1 rfl) ?_
        refine mixz_p rfl ?_
        refine mix1_val (v := .int .i64 ((clampK keep q : Nat) : Int)) (fun wz hz => ex_move (by rw [← hck]; rfl)) ?_
        refine mixz_p rfl ?_
        refine mix1_val (fun wz hz => ex_cutArr Try.underlying87 ty5 rfl rfl (by omega) (by decide)) ?_
        refine nZ50 ?_
        refine mixz_o rfl ?_
        have hcpl : (D.wait[q].2.take (clampK keep q)).length = clampK keep q := by rw [List.length_take]; omega
        refine ops_copy Try.underlying34 ty5 H4 1 (vs := u8s (D.wait[q].2.take (clampK keep q))) rfl rfl rfl (by rw [u8s_length, hcpl]; rfl) (cells_of H4 (i := 3) (o := 1) rfl (fun j u hu => ?_)) (show _ ≤ (kc ks ++ D.ksp).length by rw [List.length_append, kc_length hk6, Int.toNat_natCast]; omega) (u8s_one' _) ?_
        · rw [u8s_take, List.getElem?_take] at hu
          split at hu
          · rw [Nat.add_comm]; exact hu
          · cases hu
        intro w5 H5
        change Hp _ _ _ [_, _, _, _] at H5
        rw [kc_partA hk6 (by omega) (by omega), hcpl] at H5
        refine ops_nil ?_
        refine ⟨fun hne => absurd rfl hne, ?_⟩
        refine nZ50 ?_
        refine mixz_nil ?_
        refine nR50 ?_
        refine run_nil (blk_normal ?_)
        refine run_region ?_
        refine ops_val (ex_add rfl rfl (IntWalk.i64_in _ (by omega))) ?_
        refine ops_val (ex_move rfl) ?_
        refine ops_nil ?_
        refine nR50 ?_
        refine run_nil (rnd_normal ?_)
        have hks2 : ks.set D.wait[q].1 (D.wait[q].2.take (clampK keep q) ++ (ks.getD D.wait[q].1 []).drop (clampK keep q)) = tears D.kept D.wait keep (q + 1) := by simp only [tears]; rw [List.getElem?_eq_getElem hql, hks]
        refine ⟨D.wait.length - (q + 1), by omega, q + 1, _, ks.set D.wait[q].1 (D.wait[q].2.take (clampK keep q) ++ (ks.getD D.wait[q].1 []).drop (clampK keep q)), rfl, (fs (fs (fn (fn (fn (fn (fn (fn (fn (fn (fn (fn (fn (fs (fs (fs (fn (fn (fn (fn (fn (fn (fn (fn (fn (fn (fn (fn (fn (fn (fn (fn (fn (fn (fn (fn (fn (fn (fn (fn (fn (fn (fn (fn (fn (fn (fn (fn (fn (fn f0)))))))))))))))))))))))))))))))))))))))))))))))))), rfl, by omega, hks2, ?_⟩
        have HF := H5.pick [0, 1, 2] (by decide)
        simp only [dRows, List.length_set]
        exact HF
    · have hqe : q = D.wait.length := by omega
      rw [hqe] at hks
      refine ops_nil ?_
      refine nR50 ?_
      refine run_seq ?_
      refine run_cond_false rfl ?_
      refine run_exit ?_
      refine rnd_exit ?_
      refine blk_exit ?_
      refine run_seq ?_
      refine run_region ?_
      refine ops_val (ex_move rfl) ?_
      refine ops_val (ex_nilCheck rfl) ?_
      refine ops_val (ex_fieldAddr fl90_1 rfl) ?_
      refine ops_store1 ty88 H1 0 rfl rfl rfl rfl (by first | decide | simp) rfl ?_
      intro w2 H2
      refine ops_nil ?_
      refine nR50 ?_
      refine run_seq ?_
      refine run_region ?_
      refine ops_val (ex_move rfl) ?_
      refine ops_val (ex_nilCheck rfl) ?_
      refine ops_val (ex_fieldAddr fl90_2 rfl) ?_
      refine ops_store1 ty4 H2 0 rfl rfl rfl rfl (by first | decide | simp) rfl ?_
      intro w3 H3
      refine ops_nil ?_
      refine nR50 ?_
      refine run_seq ?_
      refine run_region ?_
      refine ops_val (ex_assign rfl) ?_
      refine ops_nil ?_
      refine nR50 ?_
      refine run_ret ?_
      refine fin_ret1 rfl rfl ?_
      have hkl : ks.length = D.kept.length := by rw [hks, tears_length]
      have hk6 : ∀ b ∈ ks, b.length = 64 := by rw [hks]; exact tears_64 hk64 hw64 _
      subst hks
      exact ⟨rfl, none, 0, [], ⟨by show 0 < (tears _ _ _ _).length; omega, by show (tears _ _ _ _).length ≤ _; omega, hk6, fun p hp => (by cases hp), Nat.le_refl _, by simp, fun _ => rfl, harm⟩, (H3.pick [0, 1] (by decide)).nil 93⟩
end Go.Proofs.Ytgkciibfpenjpaa
