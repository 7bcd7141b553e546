/- Walks of layer 2, printed by wip/gen/codec.py. -/
import Derived.Test.YtgkciibfpenjpaaNrm
import Derived.Test.YtgkciibfpenjpaaBk
namespace Go.Proofs.Ytgkciibfpenjpaa
open Go Go.RowKit
set_option linter.unusedVariables false
attribute [local irreducible] Still Ops Does Cd
set_option maxRecDepth 100000 in
set_option maxHeartbeats 4000000 in
theorem own_any (A : Option Addr) (b : List UInt8) (c : Nat) (w0 : World) (hr : Rd w0 A b.length 1 (u8s b)) (m : UInt8) (hb : b.length ≤ 211106232532900) :
    Does Try.prog 45 #[.slice A b.length c, .int .u8 (m.toNat : Int)] w0 (fun r w' => ∃ g cap sp, r = .slice (hd g) b.length cap ∧ b.length + 2 ≤ cap ∧ cap * 1 ≤ (u8s (b ++ [m, m]) ++ sp).length ∧ Hp w0 w' [] [(g, 5, u8s (b ++ [m, m]) ++ sp)]) := by
  refine does_of Try.func45 Try.ntmps45 rfl ?_
  refine nR22 ?_
  have H := Hp.refl w0
  refine run_seq ?_
  refine run_region ?_
  refine ops_val (ex_assign rfl) ?_
  refine ops_nil ?_
  refine nR22 ?_
  refine run_seq ?_
  refine run_region ?_
  refine ops_val (ex_move rfl) ?_
  refine ops_val (ex_len_slice Try.underlying34 rfl) ?_
  refine ops_val (ex_add rfl rfl ((IntWalk.i64_in _ (by omega)).trans (show ((b.length : Int) + 2) = ((b.length + 2 : Nat) : Int) by omega))) ?_
  refine ops_make Try.underlying34 ty5 H rfl rfl (n := 0) (c := b.length + 2) (Nat.zero_le _) (by omega) (by omega) ?_
  intro w1 g0 H1 hg0
  refine nO22 ?_
  refine ops_val (ex_assign rfl) ?_
  refine ops_nil ?_
  refine nR22 ?_
  refine run_seq ?_
  refine run_region ?_
  refine ops_val (ex_move rfl) ?_
  refine ops_val (ex_move rfl) ?_
  refine ops_app8 Try.underlying34 ty5 H1 0 (L := []) (M := b) (g := some g0) (sp := List.replicate (b.length + 2) (.int .u8 0)) rfl rfl (by simp [u8s]) (by simp) (by simp) rfl (hr.to0 H1) (by simp; omega) ?_
  intro w2 g1 c1 s1 H2 hm1 hc1 hg1
  refine ops_val (ex_assign rfl) ?_
  refine ops_nil ?_
  refine nR22 ?_
  refine run_seq ?_
  refine run_region ?_
  refine ops_val (ex_move rfl) ?_
  refine ops_val (ex_move rfl) ?_
  refine ops_val (ex_move rfl) ?_
  refine ops_buildSlice Try.underlying34 ty5 H2 (cs := u8s [m, m]) rfl (by decide) rfl ?_
  intro w3 gb H3 hgb
  refine nO22 ?_
  refine ops_app8 Try.underlying34 ty5 H3 0 (L := [] ++ b) (M := [m, m]) rfl rfl hc1 hm1 hg1 rfl (H3.rd (i := 1) (o := some gb) (xs := u8s [m, m]) (sp := []) rfl rfl (by decide)) (by simp; omega) ?_
  intro w4 g2 c2 s2 H4 hm2 hc2 hg2
  refine ops_val (ex_assign rfl) ?_
  refine ops_nil ?_
  refine nR22 ?_
  refine run_seq ?_
  refine run_region ?_
  refine ops_val (ex_move rfl) ?_
  refine ops_val (ex_move rfl) ?_
  refine ops_val (ex_len_slice Try.underlying34 rfl) ?_
  refine ops_val (ex_cutHi Try.underlying34 ty5 rfl rfl (by simp at hm2; omega)) ?_
  refine nO22 ?_
  refine ops_val (ex_assign rfl) ?_
  refine ops_nil ?_
  refine nR22 ?_
  refine run_ret ?_
  refine fin_ret1 rfl rfl ?_
  simp only [List.nil_append] at *
  exact ⟨g2, c2, s2, rfl, by simpa using hm2, hc2, H4.pick [0] (by decide)⟩
set_option maxRecDepth 100000 in
set_option maxHeartbeats 4000000 in
theorem kept_any (A B : Option Addr) (b : List UInt8) (c d : Nat) (m : UInt8) (w0 : World) (hrm : Rd w0 A (b ++ [m, m]).length 1 (u8s (b ++ [m, m]))) (hr : Rd w0 B b.length 1 (u8s b)) (hc : b.length + 2 ≤ c) (hb : b.length ≤ 211106232532900) :
    Does Try.prog 46 #[.slice A b.length c, .slice B b.length d, .int .u8 (m.toNat : Int)] w0 (fun r w' => r = .bool true ∧ Hp w0 w' [] []) := by
  refine does_of Try.func46 Try.ntmps46 rfl ?_
  refine nR48 ?_
  have H := Hp.refl w0
  have hrb : Rd w0 A b.length 1 (u8s b) := by
    have := hrm.head (n := b.length) (by simp)
    simpa using this
  obtain ⟨a, rfl⟩ := hrm.some_ (by simp)
  refine run_seq ?_
  refine run_region ?_
  refine ops_val (ex_assign rfl) ?_
  refine ops_nil ?_
  refine nR48 ?_
  refine run_seq ?_
  refine run_seq ?_
  refine run_region ?_
  refine ops_val (ex_move rfl) ?_
  refine ops_val (ex_len_slice Try.underlying34 rfl) ?_
  refine ops_val (ex_move rfl) ?_
  refine ops_val (ex_len_slice Try.underlying34 rfl) ?_
  refine nO48 ?_
  refine ops_false (ex_neq rfl rfl) (by simp) ?_
  refine ops_val (ex_move rfl) ?_
  refine nO48 ?_
  refine ops_yes rfl ?_
  refine ops_val (ex_move rfl) ?_
  refine ops_yes rfl ?_
  refine ops_val (ex_cap_slice Try.underlying34 rfl) ?_
  refine nO48 ?_
  refine ops_yes rfl ?_
  refine ops_val (ex_move rfl) ?_
  refine ops_yes rfl ?_
  refine ops_val (ex_len_slice Try.underlying34 rfl) ?_
  refine nO48 ?_
  refine ops_yes rfl ?_
  refine ops_val (ex_add rfl rfl (IntWalk.i64_in _ (by omega))) ?_
  refine ops_yes rfl ?_
  refine ops_false (ex_lss rfl rfl) (by omega) ?_
  refine ops_val (ex_pick_f rfl rfl) ?_
  refine ops_nil ?_
  refine nR48 ?_
  refine run_cond_false rfl ?_
  refine run_skip ?_
  refine run_seq ?_
  refine run_region ?_
  refine ops_val (ex_move rfl) ?_
  refine ops_val (ex_move rfl) ?_
  refine ops_val (ex_len_slice Try.underlying34 rfl) ?_
  refine ops_val (ex_add rfl rfl (IntWalk.i64_in _ (by omega))) ?_
  refine nO48 ?_
  refine ops_val (ex_cutHi Try.underlying34 ty5 rfl rfl (by omega)) ?_
  refine ops_val (ex_assign rfl) ?_
  refine ops_nil ?_
  refine nR48 ?_
  refine run_seq ?_
  refine run_region ?_
  refine ops_val (ex_move rfl) ?_
  refine ops_val (ex_move rfl) ?_
  have hk := plain_any (some a) B b b c d _ (hrb.to0 H) (hr.to0 H) (by omega) (by omega)
  rw [decide_eq_true rfl] at hk
  refine ops_call_val (ex_call gf55 rfl) hk ?_
  intro w1 Hd
  have H1 := H.call0 Hd
  refine ops_val (ex_move rfl) ?_
  refine nO48 ?_
  refine ops_yes rfl ?_
  refine ops_val (ex_move rfl) ?_
  refine ops_yes rfl ?_
  refine ops_val (ex_move rfl) ?_
  refine nO48 ?_
  refine ops_yes rfl ?_
  refine ops_val (ex_len_slice Try.underlying34 rfl) ?_
  refine ops_yes rfl ?_
  refine ops_val (ex_idx Try.underlying34 ty5 rfl rfl (i := b.length) rfl (by omega) (Nat.mul_one _)) ?_
  refine nO48 ?_
  refine ops_yes rfl ?_
  refine ops_val (ex_load ty5 rfl ((hrm.to0 H1).cells a rfl b.length (.int .u8 (m.toNat : Int)) (by simp [u8s]))) ?_
  refine ops_yes rfl ?_
  refine ops_val (ex_move rfl) ?_
  refine nO48 ?_
  refine ops_yes rfl ?_
  refine ops_true (ex_eql rfl rfl) (rfl) ?_
  refine ops_val (ex_pick_t rfl rfl) ?_
  refine ops_val (ex_move rfl) ?_
  refine nO48 ?_
  refine ops_yes rfl ?_
  refine ops_val (ex_move rfl) ?_
  refine ops_yes rfl ?_
  refine ops_val (ex_move rfl) ?_
  refine nO48 ?_
  refine ops_yes rfl ?_
  refine ops_val (ex_len_slice Try.underlying34 rfl) ?_
  refine ops_yes rfl ?_
  refine ops_val (ex_add rfl rfl ((IntWalk.i64_in _ (by omega)).trans (show ((b.length : Int) + 1) = ((b.length + 1 : Nat) : Int) by omega))) ?_
  refine nO48 ?_
  refine ops_yes rfl ?_
  refine ops_val (ex_idx Try.underlying34 ty5 rfl rfl (i := b.length + 1) rfl (by omega) (Nat.mul_one _)) ?_
  refine ops_yes rfl ?_
  refine ops_val (ex_load ty5 rfl ((hrm.to0 H1).cells a rfl (b.length + 1) (.int .u8 (m.toNat : Int)) (by simp [u8s]))) ?_
  refine nO48 ?_
  refine ops_yes rfl ?_
  refine ops_val (ex_move rfl) ?_
  refine ops_yes rfl ?_
  refine ops_true (ex_eql rfl rfl) (rfl) ?_
  refine ops_val (ex_pick_t rfl rfl) ?_
  refine ops_val (ex_assign rfl) ?_
  refine ops_nil ?_
  refine nR48 ?_
  refine run_ret ?_
  refine fin_ret1 rfl rfl ?_
  exact ⟨rfl, H1.pick [] (by decide)⟩
set_option maxRecDepth 100000 in
set_option maxHeartbeats 4000000 in
theorem same_any (A B : Option Addr) (bs : List Blk) (c d : Nat) (xs ys : List Value) (w0 : World) (hA : Rd w0 A bs.length 1 xs) (hB : Rd w0 B bs.length 1 ys) (hX : Lsw w0 [] xs bs) (hY : Lsw w0 [] ys bs) (hb : bs.length ≤ 16384) (h64 : ∀ b ∈ bs, b.length ≤ 16384) :
    Does Try.prog 58 #[.slice A bs.length c, .slice B bs.length d, .func (.func 21) #[] #[]] w0 (fun r w' => r = .bool true ∧ Hp w0 w' [] []) := by
  refine does_of Try.func58 Try.ntmps58 rfl ?_
  refine nR30 ?_
  have H := Hp.refl w0
  refine run_seq ?_
  refine run_region ?_
  refine ops_val (ex_assign rfl) ?_
  refine ops_nil ?_
  refine nR30 ?_
  refine run_seq ?_
  refine run_seq ?_
  refine run_region ?_
  refine ops_val (ex_move rfl) ?_
  refine ops_val (ex_len_slice Try.underlying29 rfl) ?_
  refine ops_val (ex_move rfl) ?_
  refine ops_val (ex_len_slice Try.underlying29 rfl) ?_
  refine nO30 ?_
  refine ops_false (ex_neq rfl rfl) (by simp) ?_
  refine ops_nil ?_
  refine nR30 ?_
  refine run_cond_false rfl ?_
  refine run_skip ?_
  refine run_seq ?_
  refine run_seq ?_
  refine run_region ?_
  refine ops_val (ex_assign rfl) ?_
  refine ops_nil ?_
  refine nR30 ?_
  refine run_block ?_
  refine run_loop (fun n l w => ∃ (q : Nat) (y : Int), bs.length - q = n ∧ Fits [some (.slice A bs.length c), some (.slice B bs.length d), some (.func (.func 21) #[] #[]), none, none, none, none, some (.int .i64 y), none, none, none, none, none, none, none, none, none, none, none, none, none, none, none, none, none, none, none, none, none, none] l ∧ y = q ∧ q ≤ bs.length ∧ Hp w0 w [] []) (bs.length) ?_ ?_
  · exact ⟨0, _, rfl, (fs (fs (fs (fn (fn (fn (fn (fs (fn (fn (fn (fn (fn (fn (fn (fn (fn (fn (fn (fn (fn (fn (fn (fn (fn (fn (fn (fn (fn (fn f0)))))))))))))))))))))))))))))), rfl, Nat.zero_le _, H⟩
  · rintro n l w1 ⟨q, y, rfl, hfit, rfl, hq, H1⟩
    obtain ⟨j, rfl⟩ := hfit.open
    refine nR30 ?_
    clear hfit
    refine run_seq ?_
    refine run_seq ?_
    refine run_region ?_
    refine ops_val (ex_move rfl) ?_
    refine ops_val (ex_move rfl) ?_
    refine ops_val (ex_len_slice Try.underlying29 rfl) ?_
    refine ops_test (ex_lss rfl rfl) (fun hp16 => ?_) (fun hp16 => ?_)
    · have hql : q < bs.length := by omega
      obtain ⟨C, k, hx1, hx2, _⟩ := hX.2 q hql
      obtain ⟨E, k2, hy1, hy2, _⟩ := hY.2 q hql
      obtain ⟨pa, rfl⟩ := hA.some_ (by omega)
      obtain ⟨pb, rfl⟩ := hB.some_ (by omega)
      have hb64 := h64 bs[q] (List.getElem_mem hql)
      refine ops_nil ?_
      refine nR30 ?_
      refine run_cond_true rfl ?_
      refine run_skip ?_
      refine run_seq ?_
      refine run_block ?_
      refine run_seq ?_
      refine run_mixH [(true, 0), (true, 1), (true, 2), (true, 3), (true, 4), (true, 5), (true, 6), (true, 7), (true, 8), (false, 9), (true, 10)] H1 [] mixed (by decide) (by kernel_rfl) ?_
      rintro w2 hw2
      have H2 := Hp.drew H1; rw [← hw2] at H2
      refine mix_p rfl ?_
      refine mix1_val (fun wz hz => ex_move rfl) ?_
      refine mix_p rfl ?_
      refine mix1_val (fun wz hz => ex_move rfl) ?_
      refine mix_p rfl ?_
      refine mix1_val (fun wz hz => ex_move rfl) ?_
      refine mix_p rfl ?_
      refine mix1_val (fun wz hz => ex_idx Try.underlying29 ty34 rfl rfl rfl hql (Nat.mul_one _)) ?_
      refine nM30 ?_
      refine mix_p rfl ?_
      refine mix1_val (fun wz hz => ex_load ty34 rfl ((hA.to0 hz).cells pa rfl q _ hx1)) ?_
      refine mix_p rfl ?_
      refine mix1_val (fun wz hz => ex_move rfl) ?_
      refine mix_p rfl ?_
      refine mix1_val (fun wz hz => ex_move rfl) ?_
      refine mix_p rfl ?_
      refine mix1_val (fun wz hz => ex_idx Try.underlying29 ty34 rfl rfl rfl hql (Nat.mul_one _)) ?_
      refine nM30 ?_
      refine mix_p rfl ?_
      refine mix1_val (fun wz hz => ex_load ty34 rfl ((hB.to0 hz).cells pb rfl q _ hy1)) ?_
      refine mix_o rfl ?_
      have hk := bytes_any C E bs[q] bs[q] k k2 _ (hx2.to0 H2) (hy2.to0 H2) (by omega) (by omega)
      rw [decide_eq_true rfl] at hk
      refine ops_call_val (ex_call_val gf21 rfl rfl) hk ?_
      intro w3 Hd
      have H3 := H2.call0 Hd
      refine ops_nil ?_
      refine ⟨H3.pick [] (by decide), ?_⟩
      refine nM30 ?_
      refine mix_p rfl ?_
      refine mix1_val (fun wz hz => ex_not rfl) ?_
      refine mix_nil ?_
      refine nR30 ?_
      refine run_cond_false rfl ?_
      refine run_skip ?_
      refine run_nil (blk_normal ?_)
      refine run_region ?_
      refine ops_val (ex_move rfl) ?_
      refine ops_val (ex_add rfl rfl (IntWalk.i64_in _ (by omega))) ?_
      refine ops_val (ex_assign rfl) ?_
      refine ops_nil ?_
      refine nR30 ?_
      refine run_nil (rnd_normal ?_)
      exact ⟨bs.length - (q + 1), by omega, q + 1, _, rfl, (fs (fs (fs (fn (fn (fn (fn (fs (fn (fn (fn (fn (fn (fn (fn (fn (fn (fn (fn (fn (fn (fn (fn (fn (fn (fn (fn (fn (fn (fn f0)))))))))))))))))))))))))))))), rfl, by omega, H3⟩
    · skip
      refine ops_nil ?_
      refine nR30 ?_
      refine run_cond_false rfl ?_
      refine run_exit ?_
      refine rnd_exit ?_
      refine blk_exit ?_
      refine run_seq ?_
      refine run_region ?_
      refine ops_val (ex_assign rfl) ?_
      refine ops_nil ?_
      refine nR30 ?_
      refine run_ret ?_
      refine fin_ret1 rfl rfl ?_
      exact ⟨rfl, H1⟩
set_option maxRecDepth 100000 in
set_option maxHeartbeats 4000000 in
theorem lists_any (A B : Option Addr) (bs : List Blk) (c d : Nat) (xs ys : List Value) (w0 : World) (hA : Rd w0 A bs.length 1 xs) (hB : Rd w0 B bs.length 1 ys) (hX : Lsw w0 [] xs bs) (hY : Lsw w0 [] ys bs) (hb : bs.length ≤ 16384) (h64 : ∀ b ∈ bs, b.length ≤ 16384) :
    Does Try.prog 23 #[.slice A bs.length c, .slice B bs.length d] w0 (fun r w' => r = .bool true ∧ Hp w0 w' [] []) := by
  refine does_of Try.func23 Try.ntmps23 rfl ?_
  change Run _ _ _ _ [.slice A bs.length c, .slice B bs.length d, undef, undef, undef, undef, undef, undef] _
  skip
  refine run_seq ?_
  refine run_region ?_
  refine ops_val (ex_assign rfl) ?_
  refine ops_nil ?_
  change Run _ _ _ _ [_, _, _, _, _, _, _, _] _
  refine run_seq ?_
  refine run_region ?_
  refine ops_val (ex_move rfl) ?_
  refine ops_val (ex_move rfl) ?_
  refine ops_call_val (ex_call gf58 rfl) (same_any A B bs c d xs ys _ hA hB hX hY hb h64) ?_
  intro w1 H1
  refine ops_val (ex_assign rfl) ?_
  refine ops_nil ?_
  change Run _ _ _ _ [_, _, _, _, _, _, _, _] _
  refine run_ret ?_
  refine fin_ret1 rfl rfl ?_
  exact ⟨rfl, H1⟩
end Go.Proofs.Ytgkciibfpenjpaa
