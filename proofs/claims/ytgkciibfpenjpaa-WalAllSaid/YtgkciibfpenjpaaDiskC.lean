/- Walks of layer 2, printed by wip/gen/codec.py. -/
import Derived.Test.YtgkciibfpenjpaaNrm
import Derived.Test.YtgkciibfpenjpaaDiskB
namespace Go.Proofs.Ytgkciibfpenjpaa
open Go Go.RowKit
set_option linter.unusedVariables false
attribute [local irreducible] Still Ops Does Cd
set_option maxRecDepth 100000 in
set_option maxHeartbeats 4000000 in
theorem start_any (gd gk : Nat) (gw : Option Nat) (cw : Nat) (sp : List Value) (D : Dk) (w0 : World) (H0 : Hp w0 w0 (bl (dRows gd gk gw cw sp D)) (dRows gd gk gw cw sp D)) (hD : DOk D gw cw sp) :
    Does Try.prog 28 #[.pointer (some ⟨gd, 0, none⟩)] w0 (fun r w' => r = .int .i64 0 ∧ DPost w0 w' (bl (dRows gd gk gw cw sp D)) gd gk D.start) := by
  refine does_of Try.func28 Try.ntmps28 rfl ?_
  refine nR18 ?_
  have H := H0
  obtain ⟨hpos, hmost, hk64, hw64, hwcap, hcap, hnil, harm⟩ := hD
  have hD : DOk D gw cw sp := ⟨hpos, hmost, hk64, hw64, hwcap, hcap, hnil, harm⟩
  refine run_seq ?_
  refine run_region ?_
  refine ops_val (ex_assign rfl) ?_
  refine ops_nil ?_
  refine nR18 ?_
  refine run_seq ?_
  refine run_seq ?_
  refine run_region ?_
  refine ops_val (ex_move rfl) ?_
  refine ops_false (ex_eql_nil_ptr Try.underlying27 rfl) (by simp) ?_
  refine ops_nil ?_
  refine nR18 ?_
  refine run_cond_false rfl ?_
  refine run_skip ?_
  refine run_seq ?_
  refine run_seq ?_
  refine run_region ?_
  refine ops_val (ex_move rfl) ?_
  refine ops_val (ex_nilCheck rfl) ?_
  refine ops_val (ex_fieldAddr fl90_2 rfl) ?_
  refine ops_val (ex_load ty4 rfl (H.cell (i := 0) rfl rfl)) ?_
  refine ops_nil ?_
  refine nR18 ?_
  refine run_cond rfl (fun hb8 => ?_) (fun hb8 => ?_)
  · skip
    refine run_seq ?_
    refine run_region ?_
    refine ops_val (ex_move rfl) ?_
    refine ops_val (ex_nilCheck rfl) ?_
    refine ops_val (ex_fieldAddr fl90_1 rfl) ?_
    refine ops_store1 ty88 H 0 rfl rfl rfl rfl (by first | decide | simp) rfl ?_
    intro w1 H1
    refine ops_nil ?_
    refine nR18 ?_
    refine run_seq ?_
    refine run_region ?_
    refine ops_val (ex_move rfl) ?_
    refine ops_val (ex_nilCheck rfl) ?_
    refine ops_val (ex_fieldAddr fl90_3 rfl) ?_
    refine ops_store1 ty3 H1 0 rfl rfl rfl rfl (by first | decide | simp) rfl ?_
    intro w2 H2
    refine ops_nil ?_
    refine nR18 ?_
    refine run_region ?_
    refine ops_val (ex_move rfl) ?_
    refine ops_val (ex_nilCheck rfl) ?_
    refine ops_val (ex_fieldAddr fl90_2 rfl) ?_
    refine ops_store1 ty4 H2 0 rfl rfl rfl rfl (by first | decide | simp) rfl ?_
    intro w3 H3
    refine ops_nil ?_
    refine nR18 ?_
    refine run_seq ?_
    refine run_region ?_
    refine ops_val (ex_assign rfl) ?_
    refine ops_nil ?_
    refine nR18 ?_
    refine run_ret ?_
    refine fin_ret1 rfl rfl ?_
    have hs : D.start = { D with wait := [], armed := 0, down := false } := if_pos hb8
    rw [hs]
    exact ⟨rfl, none, 0, [], ⟨hpos, hmost, hk64, fun p hp => (by cases hp), Nat.le_refl _, by simp, fun _ => rfl, by show 0 < 2 ^ 63; omega⟩, (H3.pick [0, 1] (by decide)).nil 93⟩
  · skip
    refine run_skip ?_
    refine run_seq ?_
    refine run_region ?_
    refine ops_val (ex_assign rfl) ?_
    refine ops_nil ?_
    refine nR18 ?_
    refine run_ret ?_
    refine fin_ret1 rfl rfl ?_
    have hs : D.start = D := if_neg (by rw [hb8]; decide)
    rw [hs]
    exact ⟨rfl, gw, cw, sp, hD, H⟩
set_option maxRecDepth 100000 in
set_option maxHeartbeats 4000000 in
theorem arm_any (gd gk : Nat) (gw : Option Nat) (cw : Nat) (sp : List Value) (D : Dk) (w0 : World) (H0 : Hp w0 w0 (bl (dRows gd gk gw cw sp D)) (dRows gd gk gw cw sp D)) (hD : DOk D gw cw sp) (n : Int) (hlo : -9223372036854775808 ≤ n) (hhi : n ≤ 9223372036854775807) :
    Does Try.prog 26 #[.pointer (some ⟨gd, 0, none⟩), .int .i64 n] w0 (fun r w' => r = .int .i64 ((D.arm n).2 : Int) ∧ DPost w0 w' (bl (dRows gd gk gw cw sp D)) gd gk (D.arm n).1) := by
  refine does_of Try.func26 Try.ntmps26 rfl ?_
  refine nR16 ?_
  have H := H0
  obtain ⟨hpos, hmost, hk64, hw64, hwcap, hcap, hnil, harm⟩ := hD
  have hD : DOk D gw cw sp := ⟨hpos, hmost, hk64, hw64, hwcap, hcap, hnil, harm⟩
  refine run_seq ?_
  refine run_region ?_
  refine ops_val (ex_assign rfl) ?_
  refine ops_nil ?_
  refine nR16 ?_
  refine run_seq ?_
  refine run_seq ?_
  refine run_region ?_
  refine ops_val (ex_move rfl) ?_
  refine ops_call_val (ex_call gf59 rfl) (ready_any gd gk gw cw sp D _ H.here hD) ?_
  intro w1 Hd
  have H1 := (H.callr [0, 1, 2] rfl Hd).pick [3, 4, 5] (by decide)
  refine ops_val (ex_assign rfl) ?_
  refine ops_nil ?_
  refine nR16 ?_
  refine run_seq ?_
  refine run_region ?_
  refine ops_val (ex_move rfl) ?_
  refine ops_test (ex_neq rfl rfl) (fun hp9 => ?_) (fun hp9 => ?_)
  · have hdn : D.down = true := by
      by_cases h : D.down = true
      · exact h
      · rw [if_neg h] at hp9; omega
    refine ops_nil ?_
    refine nR16 ?_
    refine run_cond_true rfl ?_
    refine run_seq ?_
    refine run_region ?_
    refine ops_val (ex_move rfl) ?_
    refine ops_val (ex_assign rfl) ?_
    refine ops_nil ?_
    refine nR16 ?_
    refine run_ret ?_
    refine fin_ret1 rfl rfl ?_
    have hs : D.arm n = (D, 40) := if_pos hdn
    rw [hs, if_pos hdn]
    exact ⟨rfl, gw, cw, sp, hD, H1⟩
  · have hdn : ¬ D.down = true := fun h => by rw [if_pos h] at hp9; omega
    refine ops_nil ?_
    refine nR16 ?_
    refine run_cond_false rfl ?_
    refine run_skip ?_
    refine run_seq ?_
    refine run_region ?_
    refine ops_val (ex_move rfl) ?_
    refine ops_val (ex_move rfl) ?_
    refine ops_val (ex_max rfl rfl) ?_
    rw [show max n 0 = (((max n 0).toNat : Nat) : Int) by omega]
    refine ops_val (ex_nilCheck rfl) ?_
    refine nO16 ?_
    refine ops_val (ex_fieldAddr fl90_3 rfl) ?_
    refine ops_store1 ty3 H1 0 rfl rfl rfl rfl (by first | decide | simp) rfl ?_
    intro w2 H2
    refine ops_nil ?_
    refine nR16 ?_
    refine run_seq ?_
    refine run_region ?_
    refine ops_val (ex_assign rfl) ?_
    refine ops_nil ?_
    refine nR16 ?_
    refine run_ret ?_
    refine fin_ret1 rfl rfl ?_
    have hs : D.arm n = ({ D with armed := (max n 0).toNat }, 0) := if_neg hdn
    rw [hs]
    exact ⟨rfl, gw, cw, sp, ⟨hpos, hmost, hk64, hw64, hwcap, hcap, hnil, by show (max n 0).toNat < 2 ^ 63; omega⟩, H2⟩
theorem hit_wait (D : Dk) : D.hit.1.wait = D.wait := by unfold Dk.hit; split <;> rfl
theorem hit_kept (D : Dk) : D.hit.1.kept = D.kept := by unfold Dk.hit; split <;> rfl
theorem getL {α : Type} {l m : List α} {n : Nat} {u : α} (h : l[n]? = some u) : (l ++ m)[n]? = some u := by
  rw [List.getElem?_append_left (List.getElem?_eq_some_iff.1 h).1]; exact h
set_option maxRecDepth 100000 in
set_option maxHeartbeats 4000000 in
theorem sync_any (gd gk : Nat) (gw : Option Nat) (cw : Nat) (sp : List Value) (D : Dk) (w0 : World) (H0 : Hp w0 w0 (bl (dRows gd gk gw cw sp D)) (dRows gd gk gw cw sp D)) (hD : DOk D gw cw sp) (hm : D.wait.length ≤ 2932000000000) :
    Does Try.prog 43 #[.pointer (some ⟨gd, 0, none⟩)] w0 (fun r w' => r = .int .i64 ((D.sync).2 : Int) ∧ DPost w0 w' (bl (dRows gd gk gw cw sp D)) gd gk (D.sync).1) := by
  refine does_of Try.func43 Try.ntmps43 rfl ?_
  refine nR38 ?_
  have H := H0
  obtain ⟨hpos, hmost, hk64, hw64, hwcap, hcap, hnil, harm⟩ := hD
  have hD : DOk D gw cw sp := ⟨hpos, hmost, hk64, hw64, hwcap, hcap, hnil, harm⟩
  refine run_seq ?_
  refine run_region ?_
  refine ops_val (ex_assign rfl) ?_
  refine ops_nil ?_
  refine nR38 ?_
  refine run_seq ?_
  refine run_seq ?_
  refine run_region ?_
  refine ops_val (ex_move rfl) ?_
  refine ops_call_val (ex_call gf59 rfl) (ready_any gd gk gw cw sp D _ H.here hD) ?_
  intro w1 Hd
  have H1 := (H.callr [0, 1, 2] rfl Hd).pick [3, 4, 5] (by decide)
  refine ops_val (ex_assign rfl) ?_
  refine ops_nil ?_
  refine nR38 ?_
  refine run_seq ?_
  refine run_region ?_
  refine ops_val (ex_move rfl) ?_
  refine ops_test (ex_neq rfl rfl) (fun hp9 => ?_) (fun hp9 => ?_)
  · have hdn : D.down = true := by
      by_cases h : D.down = true
      · exact h
      · rw [if_neg h] at hp9; omega
    refine ops_nil ?_
    refine nR38 ?_
    refine run_cond_true rfl ?_
    refine run_seq ?_
    refine run_region ?_
    refine ops_val (ex_move rfl) ?_
    refine ops_val (ex_assign rfl) ?_
    refine ops_nil ?_
    refine nR38 ?_
    refine run_ret ?_
    refine fin_ret1 rfl rfl ?_
    have hs : D.sync = (D, 40) := if_pos hdn
    rw [hs, if_pos hdn]
    exact ⟨rfl, gw, cw, sp, hD, H1⟩
  · have hdn : ¬ D.down = true := fun h => by rw [if_pos h] at hp9; omega
    refine ops_nil ?_
    refine nR38 ?_
    refine run_cond_false rfl ?_
    refine run_skip ?_
    refine run_seq ?_
    refine run_seq ?_
    refine run_region ?_
    refine ops_val (ex_move rfl) ?_
    refine ops_call_val (ex_call gf62 rfl) (hit_any gd gk gw cw sp D _ H1.here hD) ?_
    intro w2 Hd
    have H2 := (H1.callr [0, 1, 2] rfl Hd).pick [3, 4, 5] (by decide)
    have hE := hD.hit
    have hew := congrArg List.length (hit_wait D)
    generalize hEE : D.hit = EE at *
    obtain ⟨E, hb⟩ := EE
    dsimp only at *
    refine ops_nil ?_
    refine nR38 ?_
    refine run_cond rfl (fun hb12 => ?_) (fun hb12 => ?_)
    · have hs : D.sync = ({ E with down := true }, 40) := by
        unfold Dk.sync
        rw [if_neg hdn, hEE]
        exact if_pos hb12
      refine run_seq ?_
      refine run_region ?_
      refine ops_val (ex_move rfl) ?_
      refine ops_val (ex_nilCheck rfl) ?_
      refine ops_val (ex_fieldAddr fl90_2 rfl) ?_
      refine ops_store1 ty4 H2 0 rfl rfl rfl rfl (by first | decide | simp) rfl ?_
      intro w3 H3
      refine ops_nil ?_
      refine nR38 ?_
      refine run_seq ?_
      refine run_region ?_
      refine ops_val (ex_assign rfl) ?_
      refine ops_nil ?_
      refine nR38 ?_
      refine run_ret ?_
      refine fin_ret1 rfl rfl ?_
      rw [hs]
      exact ⟨rfl, gw, cw, sp, hE.fall true, H3⟩
    · have hs : D.sync = ({ E with kept := flush E.kept E.wait, wait := [] }, 0) := by
        unfold Dk.sync
        rw [if_neg hdn, hEE]
        exact if_neg (by rw [hb12]; exact Bool.false_ne_true)
      obtain ⟨epos, emost, ek64, ew64, ewcap, ecap, enil, earm⟩ := hE
      refine run_skip ?_
      refine run_seq ?_
      refine run_seq ?_
      refine run_region ?_
      refine ops_val (ex_move rfl) ?_
      refine ops_val (ex_nilCheck rfl) ?_
      refine ops_val (ex_fieldAddr fl90_1 rfl) ?_
      refine ops_val (ex_load ty88 rfl (H2.cell (i := 0) rfl rfl)) ?_
      refine nO38 ?_
      refine ops_val (ex_len_slice Try.underlying88 rfl) ?_
      refine ops_val (ex_move rfl) ?_
      refine ops_nil ?_
      refine nR38 ?_
      refine run_block ?_
      refine run_loop (fun n l w => ∃ (q : Nat) (y : Int) (ks : List Blk), E.wait.length - q = n ∧ Fits [some (.pointer (some ⟨gd, 0, none⟩)), none, none, none, none, none, none, none, none, none, none, none, none, none, none, none, none, none, none, some (.slice (hd gw) E.wait.length cw), some (.int .i64 E.wait.length), some (.int .i64 y), none, none, none, none, none, none, none, none, none, none, none, none, none, none, none, none] l ∧ y = q ∧ q ≤ E.wait.length ∧ ks = flush E.kept (E.wait.take q) ∧ Hp w0 w (bl (dRows gd gk gw cw sp D)) (dRows gd gk gw cw sp { E with kept := ks })) (E.wait.length) ?_ ?_
      · exact ⟨0, _, _, rfl, (fs (fn (fn (fn (fn (fn (fn (fn (fn (fn (fn (fn (fn (fn (fn (fn (fn (fn (fn (fs (fs (fs (fn (fn (fn (fn (fn (fn (fn (fn (fn (fn (fn (fn (fn (fn (fn (fn f0)))))))))))))))))))))))))))))))))))))), rfl, Nat.zero_le _, rfl, H2⟩
      · rintro n l w3 ⟨q, y, ks, rfl, hfit, rfl, hq, hks, H3⟩
        obtain ⟨j, rfl⟩ := hfit.open
        refine nR38 ?_
        clear hfit
        have hkl : ks.length = E.kept.length := by rw [hks, flush_length]
        have hk6 : ∀ b ∈ ks, b.length = 64 := by rw [hks]; exact flush_64 ek64 (fun p hp => ew64 p (List.mem_of_mem_take hp))
        refine run_seq ?_
        refine run_region ?_
        refine ops_test (ex_lss rfl rfl) (fun hp22 => ?_) (fun hp22 => ?_)
        · have hql : q < E.wait.length := by omega
          have hwq := ew64 E.wait[q] (List.getElem_mem hql)
          obtain ⟨g7, rfl⟩ : ∃ x, gw = some x := by
            cases gw with
            | none => have := enil rfl; omega
            | some x => exact ⟨x, rfl⟩
          have hcl : (wcell E.wait[q]).length = 65 := wcell_length hwq.1
          refine ops_nil ?_
          refine nR38 ?_
          refine run_seq ?_
          refine run_cond_true rfl ?_
          refine run_skip ?_
          refine run_seq ?_
          refine run_block ?_
          refine run_seq ?_
          refine run_region ?_
          refine ops_val (ex_idx Try.underlying88 ty93 rfl rfl rfl hql rfl) ?_
          rw [addz]
          refine ops_val (ex_loadN ty93 rfl (vs := wcell E.wait[q]) hcl (cells_of H3 (i := 2) rfl (fun j u hu => getL (wc_get ew64 hql j u hu)))) ?_
          refine ops_alloc ty93 H3 ?_
          intro w4 g4 H4 hg4
          refine ops_store ty93 H4 3 rfl rfl rfl (by simp [Value.cells]) hcl (by rw [hcl]; decide) (wcell_one' _ _) ?_
          intro w5 H5
          change Hp _ _ _ [_, _, _, _] at H5
          rw [putAt_all (by rw [hcl]; rfl)] at H5
          refine ops_nil ?_
          refine nR38 ?_
          refine run_mixZ 9 [(true, 0), (true, 1), (true, 2), (true, 3), (true, 4), (true, 5), (true, 6), (true, 7), (true, 8), (false, 9)] H5 [0, 3] mixed (by decide) (by kernel_rfl) ?_
          rintro w6 hw6
          have H6 := Hp.drew H5; rw [← hw6] at H6
          refine mixz_p rfl ?_
          refine mix1_val (fun wz hz => ex_move rfl) ?_
          refine mixz_p rfl ?_
          refine mix1_val (fun wz hz => ex_nilCheck rfl) ?_
          refine mixz_p rfl ?_
          refine mix1_val (fun wz hz => ex_fieldAddr fl90_0 rfl) ?_
          refine mixz_p rfl ?_
          refine mix1_val (fun wz hz => ex_load ty84 rfl (hz.cell (i := 0) rfl rfl)) ?_
          refine nZ38 ?_
          refine mixz_p rfl ?_
          refine mix1_val (fun wz hz => ex_fieldAddr fl93_0 rfl) ?_
          refine mixz_p rfl ?_
          refine mix1_val (fun wz hz => ex_load ty3 rfl ((hz.cell (i := 1) rfl (show (wcell E.wait[q])[0]? = _ from rfl)))) ?_
          refine mixz_p rfl ?_
          refine mix1_val (fun wz hz => ex_fieldAddr fl93_1 rfl) ?_
          refine mixz_p rfl ?_
          refine mix1_val (fun wz hz => ex_loadN ty87 rfl (vs := u8s E.wait[q].2) (by rw [u8s_length]; exact hwq.1) (cells_of hz (i := 1) (o := 1) rfl (fun j u hu => by rw [Nat.add_comm]; exact hu))) ?_
          refine nZ38 ?_
          refine mixz_p rfl ?_
          refine mix1_val (fun wz hz => ex_idx Try.underlying84 ty87 rfl rfl rfl (show E.wait[q].1 < ks.length by omega) rfl) ?_
          refine mixz_o rfl ?_
          rw [addz]
          refine ops_store ty87 H6 1 (vs := u8s E.wait[q].2) rfl rfl rfl rfl (by rw [u8s_length]; exact hwq.1) (show _ ≤ (kc ks ++ E.ksp).length by rw [List.length_append, kc_length hk6, u8s_length, hwq.1]; omega) (u8s_one' _) ?_
          intro w7 H7
          change Hp _ _ _ [_, _, _, _] at H7
          rw [kc_putA hk6 (by omega) hwq.1] at H7
          refine ops_nil ?_
          refine ⟨fun hne => absurd rfl hne, ?_⟩
          refine nZ38 ?_
          refine mixz_nil ?_
          refine nR38 ?_
          refine run_nil (blk_normal ?_)
          refine run_region ?_
          refine ops_val (ex_add rfl rfl (IntWalk.i64_in _ (by omega))) ?_
          refine ops_val (ex_move rfl) ?_
          refine ops_nil ?_
          refine nR38 ?_
          refine run_nil (rnd_normal ?_)
          have hks2 : ks.set E.wait[q].1 E.wait[q].2 = flush E.kept (E.wait.take (q + 1)) := by rw [flush_snoc hql, hks]
          refine ⟨E.wait.length - (q + 1), by omega, q + 1, _, ks.set E.wait[q].1 E.wait[q].2, rfl, (fs (fn (fn (fn (fn (fn (fn (fn (fn (fn (fn (fn (fn (fn (fn (fn (fn (fn (fn (fs (fs (fs (fn (fn (fn (fn (fn (fn (fn (fn (fn (fn (fn (fn (fn (fn (fn (fn f0)))))))))))))))))))))))))))))))))))))), rfl, by omega, hks2, ?_⟩
          have HF := H7.pick [0, 1, 2] (by decide)
          simp only [dRows, List.length_set]
          exact HF
        · have hqe : q = E.wait.length := by omega
          rw [hqe, List.take_length] at hks
          refine ops_nil ?_
          refine nR38 ?_
          refine run_seq ?_
          refine run_cond_false rfl ?_
          refine run_exit ?_
          refine rnd_exit ?_
          refine blk_exit ?_
          refine run_seq ?_
          refine run_region ?_
          refine ops_val (ex_move rfl) ?_
          refine ops_val (ex_nilCheck rfl) ?_
          refine ops_val (ex_fieldAddr fl90_1 rfl) ?_
          refine ops_store1 ty88 H3 0 rfl rfl rfl rfl (by first | decide | simp) rfl ?_
          intro w4 H4
          refine ops_nil ?_
          refine nR38 ?_
          refine run_seq ?_
          refine run_region ?_
          refine ops_val (ex_assign rfl) ?_
          refine ops_nil ?_
          refine nR38 ?_
          refine run_ret ?_
          refine fin_ret1 rfl rfl ?_
          have hkl : ks.length = E.kept.length := by rw [hks, flush_length]
          have hk6 : ∀ b ∈ ks, b.length = 64 := by rw [hks]; exact flush_64 ek64 ew64
          rw [hs]
          subst hks
          exact ⟨rfl, none, 0, [], ⟨by show 0 < (flush _ _).length; omega, by show (flush _ _).length ≤ _; omega, hk6, fun p hp => (by cases hp), Nat.le_refl _, by simp, fun _ => rfl, earm⟩, (H4.pick [0, 1] (by decide)).nil 93⟩
end Go.Proofs.Ytgkciibfpenjpaa
