/- Walks of layer 2, printed by wip/gen/codec.py. -/
import Derived.Test.YtgkciibfpenjpaaNrm
import Derived.Test.YtgkciibfpenjpaaWalB
namespace Go.Proofs.Ytgkciibfpenjpaa
open Go Go.RowKit
set_option linter.unusedVariables false
attribute [local irreducible] Still Ops Does Cd
set_option maxRecDepth 100000 in
set_option maxHeartbeats 4000000 in
theorem chunk_any (A : Option Addr) (n c : Nat) (w0 : World) :
    Does Try.prog 35 #[.slice A n c, .int .i64 64] w0 (fun r w' => ∃ g1 g2, r = .func (.func 61) #[] [.pointer (some ⟨g1, 0, none⟩), .pointer (some ⟨g2, 0, none⟩)].toArray ∧ Hp w0 w' [] [(some g1, 34, [.slice A n c]), (some g2, 3, [.int .i64 64])]) := by
  refine does_of Try.func35 Try.ntmps35 rfl ?_
  change Run _ _ _ _ [.slice A n c, .int .i64 64, undef, undef, undef, undef, undef, undef, undef] _
  have H := Hp.refl w0
  refine run_seq ?_
  refine run_region ?_
  refine ops_box rfl rfl H ?_
  intro w1 g1 H1 hg1
  refine ops_box rfl rfl H1 ?_
  intro w2 g2 H2 hg2
  refine ops_val (ex_assign rfl) ?_
  refine ops_nil ?_
  change Run _ _ _ _ [_, _, _, _, _, _, _, _, _] _
  refine run_seq ?_
  refine run_seq ?_
  refine run_region ?_
  refine ops_val (ex_load ty3 rfl (H2.cell (i := 1) rfl rfl)) ?_
  refine ops_false (ex_lss rfl rfl) (by decide) ?_
  refine ops_nil ?_
  change Run _ _ _ _ [_, _, _, _, _, _, _, _, _] _
  refine run_cond_false rfl ?_
  refine run_skip ?_
  refine run_seq ?_
  refine run_region ?_
  refine ops_val (ex_makeFunc rfl rfl) ?_
  refine ops_val (ex_assign rfl) ?_
  refine ops_nil ?_
  change Run _ _ _ _ [_, _, _, _, _, _, _, _, _] _
  refine run_ret ?_
  refine fin_ret1 rfl rfl ?_
  exact ⟨g1, g2, rfl, H2⟩
namespace Rn
attribute [local irreducible] Cd
set_option maxRecDepth 100000 in
set_option maxHeartbeats 4000000 in
theorem chunk_iter (g1 g2 ga N c : Nat) (hN : N ≤ 1000) (hc : 64 * N ≤ c) (w1 : World) (h1 : w1.heap[g1]? = some (.cells [Value.slice (some ⟨ga, 0, none⟩) (64 * N) c].toArray 34 (0, 0))) (h2 : w1.heap[g2]? = some (.cells [Value.int .i64 64].toArray 3 (0, 0))) (hne : g1 ≠ g2) :
    Iter Try.prog 61 [.pointer (some ⟨g1, 0, none⟩), .pointer (some ⟨g2, 0, none⟩)] N [g1, g2] (fun k _ args G => args = [.slice (some ⟨ga, 64 * k, none⟩) 64 64] ∧ G = []) w1 := by
  intro L J X XP O0 hO hJO hJs hXs hY h0
  refine does_of Try.func61 Try.ntmps61 rfl ?_
  change Run _ _ _ _ [.func (.yield L) #[] #[], .pointer (some ⟨g1, 0, none⟩), .pointer (some ⟨g2, 0, none⟩), undef, undef, undef, undef, undef, undef, undef, undef, undef, undef, undef, undef, undef, undef, undef, undef, undef, undef, undef, undef, undef, undef, undef, undef, undef, undef, undef, undef] _
  refine run_seq ?_
  refine run_region rfl (fun _ _ h => h) ?_
  refine ops_val (ex_assign rfl) ?_
  refine ops_nil ?_
  change Run _ _ _ _ [_, _, _, _, _, _, _, _, _, _, _, _, _, _, _, _, _, _, _, _, _, _, _, _, _, _, _, _, _, _, _] _
  refine run_block ?_
  refine run_loop (fun n l w => ∃ (k : Nat) (y : Int) (O : List Nat), N - k = n ∧ Fits [some (.func (.yield L) #[] #[]), some (.pointer (some ⟨g1, 0, none⟩)), some (.pointer (some ⟨g2, 0, none⟩)), none, some (.int .i64 y), none, none, none, none, none, none, none, none, none, none, none, none, none, none, none, none, none, none, none, none, none, none, none, none, none, none] l ∧ y = ((64 * k : Nat) : Int) ∧ k ≤ N ∧ w.heap[g1]? = some (.cells [Value.slice (some ⟨ga, 0, none⟩) (64 * N) c].toArray 34 (0, 0)) ∧ w.heap[g2]? = some (.cells [Value.int .i64 64].toArray 3 (0, 0)) ∧ J k w O ∧ (∀ b ∈ O, b ∉ [g1, g2])) (N) ?_ ?_
  · exact ⟨0, _, O0, rfl, (fs (fs (fs (fn (fs (fn (fn (fn (fn (fn (fn (fn (fn (fn (fn (fn (fn (fn (fn (fn (fn (fn (fn (fn (fn (fn (fn (fn (fn (fn (fn f0))))))))))))))))))))))))))))))), rfl, Nat.zero_le _, h1, h2, h0, hO⟩
  · rintro n l w1 ⟨k, y, O, rfl, hfit, rfl, hk, hg1, hg2, hJ, hOn⟩
    obtain ⟨j, rfl⟩ := hfit.open
    change Run _ _ _ _ [_, _, _, _, _, _, _, _, _, _, _, _, _, _, _, _, _, _, _, _, _, _, _, _, _, _, _, _, _, _, _] _
    clear hfit
    have H1 := Hp.two hg1 hg2 hne
    refine run_seq ?_
    refine run_seq ?_
    refine run_region rfl (fun _ _ h => h) ?_
    refine ops_val (ex_move rfl) ?_
    refine ops_val (ex_load ty34 rfl (H1.cell (i := 0) rfl rfl)) ?_
    refine ops_val (ex_len_slice Try.underlying34 rfl) ?_
    refine ops_test (ex_lss rfl rfl) (fun hp9 => ?_) (fun hp9 => ?_)
    · have hkl : k < N := by omega
      refine ops_nil ?_
      change Run _ _ _ _ [_, _, _, _, _, _, _, _, _, _, _, _, _, _, _, _, _, _, _, _, _, _, _, _, _, _, _, _, _, _, _] _
      refine run_cond_true rfl ?_
      refine run_skip ?_
      refine run_seq ?_
      refine run_block ?_
      refine run_seq ?_
      refine run_mixH [(true, 0), (true, 1), (true, 2), (true, 3), (true, 4), (true, 5), (true, 6)] H1 [0, 1] mixed (by decide) (by kernel_rfl) rfl ?_
      rintro w2 hw2
      have H2 := Hp.drew H1; rw [← hw2] at H2
      have hJ2 : J k w2 O := hJs k _ O w2 hJ (by rw [‹w2 = _›]; exact Hp.drewW _)
      have hq1 : w2.heap[g1]? = some (.cells [Value.slice (some ⟨ga, 0, none⟩) (64 * N) c].toArray 34 (0, 0)) := H2.at (i := 0) rfl
      have hq2 : w2.heap[g2]? = some (.cells [Value.int .i64 64].toArray 3 (0, 0)) := H2.at (i := 1) rfl
      refine mix_p rfl ?_
      refine mix1_val (fun wz hz => ex_load ty3 rfl (hz.cell (i := 1) rfl rfl)) ?_
      refine mix_p rfl ?_
      refine mix1_val (fun wz hz => ex_load ty34 rfl (hz.cell (i := 0) rfl rfl)) ?_
      refine mix_p rfl ?_
      refine mix1_val (fun wz hz => ex_move rfl) ?_
      refine mix_p rfl ?_
      refine mix1_val (fun wz hz => ex_cutLo Try.underlying34 ty5 rfl rfl (by omega)) ?_
      refine nM31 ?_
      refine mix_p rfl ?_
      refine mix1_val (fun wz hz => ex_len_slice Try.underlying34 rfl) ?_
      refine mix_p rfl ?_
      refine mix1_val (fun wz hz => ex_min rfl rfl) ?_
      rw [show min (64 : Int) ((64 * N - (((64 * k : Nat) : Int)).toNat : Nat) : Int) = 64 by omega]
      refine mix_p rfl ?_
      refine mix1_val (fun wz hz => ex_assign rfl) ?_
      refine mix_nil ?_
      change Run _ _ _ _ [_, _, _, _, _, _, _, _, _, _, _, _, _, _, _, _, _, _, _, _, _, _, _, _, _, _, _, _, _, _, _] _
      refine run_seq ?_
      refine run_yield 10 rfl rfl (fun _ _ h => h) ?_
      refine ops_val (ex_move rfl) ?_
      refine ops_val (ex_load ty34 rfl (H2.cell (i := 0) rfl rfl)) ?_
      refine ops_val (ex_move rfl) ?_
      refine ops_val (ex_move rfl) ?_
      refine nO31 ?_
      refine ops_val (ex_move rfl) ?_
      refine ops_val (ex_add rfl rfl ((IntWalk.i64_in _ (by omega)).trans (show (((64 * k : Nat) : Int) + 64) = ((64 * (k + 1) : Nat) : Int) by omega))) ?_
      refine ops_val (ex_move rfl) ?_
      refine ops_val (ex_move rfl) ?_
      refine nO31 ?_
      refine ops_val (ex_add rfl rfl ((IntWalk.i64_in _ (by omega)).trans (show (((64 * k : Nat) : Int) + 64) = ((64 * (k + 1) : Nat) : Int) by omega))) ?_
      refine ops_val (ex_cut3s Try.underlying34 ty5 rfl rfl rfl rfl (by omega) (n := 64) (m := 64) (by omega) (by omega)) ?_
      rw [show cutAddr (some ⟨ga, 0, none⟩) (64 * k) (64 * (k + 1)) 1 = some ⟨ga, 64 * k, none⟩ by unfold cutAddr; rw [if_neg (by omega), Nat.mul_one]; exact congrArg some (addz _ _)]
      refine ops_nil ?_
      refine ⟨29, _, _, _, _, _, _, L, _, _, _, rfl, rfl, rfl, hY k w2 O [.slice (some ⟨ga, 64 * k, none⟩) 64 64] [] hkl hJ2 ⟨rfl, rfl⟩ (by simp), ?_, fun ch wz hz => hz⟩
      rintro v wy ⟨O', hHy, hOy, hcase⟩
      rw [List.append_nil] at hHy
      have hy1 : wy.heap[g1]? = some (.cells [Value.slice (some ⟨ga, 0, none⟩) (64 * N) c].toArray 34 (0, 0)) := (hHy.frame g1 (Array.getElem?_eq_some_iff.1 hq1).1 (fun hb => hOn _ hb (by simp))).trans hq1
      have hy2 : wy.heap[g2]? = some (.cells [Value.int .i64 64].toArray 3 (0, 0)) := (hHy.frame g2 (Array.getElem?_eq_some_iff.1 hq2).1 (fun hb => hOn _ hb (by simp))).trans hq2
      have hl1 := (Array.getElem?_eq_some_iff.1 hq1).1
      have hl2 := (Array.getElem?_eq_some_iff.1 hq2).1
      have hOy2 : ∀ b ∈ O', b ∉ [g1, g2] := by
        intro b hb
        rcases hOy b hb with h | h
        · exact hOn b (by simpa using h)
        · simp; omega
      rcases hcase with ⟨rfl, hJy⟩ | ⟨rfl, hXy⟩
      · skip
        refine ops_val (ex_not rfl) ?_
        refine ops_nil ?_
        change Run _ _ _ _ [_, _, _, _, _, _, _, _, _, _, _, _, _, _, _, _, _, _, _, _, _, _, _, _, _, _, _, _, _, _, _] _
        refine run_cond_false rfl ?_
        refine run_skip ?_
        refine run_nil (blk_normal ?_)
        refine run_region rfl (fun _ _ h => h) ?_
        refine ops_val (ex_move rfl) ?_
        refine ops_val (ex_load ty3 rfl ((Hp.two hy1 hy2 hne).cell (i := 1) rfl rfl)) ?_
        refine ops_val (ex_add rfl rfl ((IntWalk.i64_in _ (by omega)).trans (show (((64 * k : Nat) : Int) + 64) = ((64 * (k + 1) : Nat) : Int) by omega))) ?_
        refine ops_val (ex_assign rfl) ?_
        refine ops_nil ?_
        change Run _ _ _ _ [_, _, _, _, _, _, _, _, _, _, _, _, _, _, _, _, _, _, _, _, _, _, _, _, _, _, _, _, _, _, _] _
        refine run_nil (rnd_normal ?_)
        refine ⟨rfl, ?_⟩
        exact ⟨N - (k + 1), by omega, k + 1, _, O', rfl, (fs (fs (fs (fn (fs (fn (fn (fn (fn (fn (fn (fn (fn (fn (fn (fn (fn (fn (fn (fn (fn (fn (fn (fn (fn (fn (fn (fn (fn (fn (fn f0))))))))))))))))))))))))))))))), rfl, by omega, hy1, hy2, hJy, hOy2⟩
      · skip
        refine ops_val (ex_not rfl) ?_
        refine ops_nil ?_
        change Run _ _ _ _ [_, _, _, _, _, _, _, _, _, _, _, _, _, _, _, _, _, _, _, _, _, _, _, _, _, _, _, _, _, _, _] _
        refine run_cond_true rfl ?_
        refine run_ret ?_
        refine blk_ret ?_
        refine rnd_ret ?_
        refine blk_ret ?_
        exact ⟨_, results0 rfl _ _, .inr hXy⟩
    · have hkN : k = N := by omega
      subst hkN
      refine ops_nil ?_
      change Run _ _ _ _ [_, _, _, _, _, _, _, _, _, _, _, _, _, _, _, _, _, _, _, _, _, _, _, _, _, _, _, _, _, _, _] _
      refine run_cond_false rfl ?_
      refine run_exit ?_
      refine rnd_exit ?_
      refine blk_exit ?_
      refine run_nil ?_
      exact ⟨_, results0 rfl _ _, .inl ⟨O, hJ⟩⟩
end Rn
end Go.Proofs.Ytgkciibfpenjpaa
