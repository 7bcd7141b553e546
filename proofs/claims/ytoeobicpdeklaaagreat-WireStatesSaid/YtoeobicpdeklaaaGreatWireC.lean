/- Walks of layer 2, printed by wip/gen/codec.py. -/
import Derived.Test.YtoeobicpdeklaaaGreatNrm
import Derived.Test.YtoeobicpdeklaaaGreatWireB
namespace Go.Proofs.YtoeobicpdeklaaaGreat
open Go Go.RowKit
set_option linter.unusedVariables false
attribute [local irreducible] Still Ops Does Cd
set_option maxRecDepth 100000 in
set_option maxHeartbeats 4000000 in
theorem rnum_any (v : Nat) (w0 : World) (hv : v < 2 ^ 64) :
    Does Tryz.prog 99 #[.int .u64 v] w0 (fun r w' => Own w0 w' r (enc v)) := by
  refine does_of Tryz.func99 Tryz.ntmps99 rfl ?_
  refine nR20 ?_
  have H := Hp.refl w0
  refine run_seq ?_
  refine run_region ?_
  refine ops_val (ex_assign rfl) ?_
  refine ops_nil ?_
  refine nR20 ?_
  refine run_seq ?_
  refine run_region ?_
  refine ops_val (ex_assign rfl) ?_
  refine ops_nil ?_
  refine nR20 ?_
  refine run_seq ?_
  refine run_block ?_
  refine run_loop (fun n l w => ∃ (v1 : Nat) (pre : List UInt8) (x : Int) (g : Option Nat) (m cap : Nat) (xs sp : List Value), v1 = n ∧ Fits [some (.int .u64 x), none, some (.slice none 0 0), some (.slice (hd g) m cap), none, none, none, none, none, none, none, none, none, none, none, none, none, none, none, none] l ∧ x = v1 ∧ v1 ≤ v ∧ m = pre.length ∧ xs = u8s pre ∧ enc v = pre ++ enc v1 ∧ m ≤ cap ∧ cap * 1 ≤ (xs ++ sp).length ∧ (g = none → cap = 0) ∧ Hp w0 w [] [(g, 5, xs ++ sp)]) (v) ?_ ?_
  · exact ⟨v, [], _, none, 0, 0, [], [], rfl, (fs (fn (fs (fs (fn (fn (fn (fn (fn (fn (fn (fn (fn (fn (fn (fn (fn (fn (fn (fn f0)))))))))))))))))))), rfl, Nat.le_refl _, rfl, rfl, rfl, Nat.le_refl _, by simp, fun _ => rfl, H.nil 5⟩
  · rintro n l w1 ⟨v1, pre, x, g, m, cap, xs, sp, rfl, hfit, rfl, hle, rfl, rfl, henc, hmc, hcap, hg0, H1⟩
    obtain ⟨j, rfl⟩ := hfit.open
    refine nR20 ?_
    clear hfit
    have hl10 := enc_len64 hv
    have hlp : pre.length + (enc v1).length = (enc v).length := by rw [henc]; simp
    have hpos := enc_pos v1
    refine run_seq ?_
    refine run_seq ?_
    refine run_region ?_
    refine ops_val (ex_move rfl) ?_
    refine ops_test (ex_gtr rfl rfl) (fun hp5 => ?_) (fun hp5 => ?_)
    · skip
      refine ops_nil ?_
      refine nR20 ?_
      refine run_cond_true rfl ?_
      refine run_skip ?_
      refine run_block ?_
      refine run_seq ?_
      refine run_region ?_
      refine ops_val (ex_move rfl) ?_
      refine ops_val (ex_move rfl) ?_
      refine ops_val (ex_rem rfl rfl (by omega) (tmodN v1 128)) ?_
      refine ops_val (ex_add rfl rfl ((IntWalk.u64_in _ (by omega)).trans (show (((v1 % 128 : Nat) : Int) + 128) = ((v1 % 128 + 128 : Nat) : Int) by omega))) ?_
      refine nO20 ?_
      refine ops_val (ex_conv Tryz.underlying5 Tryz.underlying136 rfl (IntWalk.u8_in _ (by omega))) ?_
      refine ops_buildSlice Tryz.underlying29 ty5 H1 rfl (by decide) rfl ?_
      intro w2 g2 H2 hg2
      refine ops_append Tryz.underlying29 ty5 (by decide) H2 0 rfl rfl (u8s_length1 pre) hcap hmc hg0 rfl (H2.rd (i := 1) (o := some g2) (xs := [Value.int .u8 ((v1 % 128 + 128 : Nat) : Int)]) (sp := []) rfl rfl (by decide)) rfl (by omega) (by omega) (by decide) ?_
      intro w3 g3 cap3 sp3 H3 hcap3 hmc3 hg3
      refine ops_val (ex_assign rfl) ?_
      refine ops_nil ?_
      refine nR20 ?_
      refine run_region ?_
      refine ops_val (ex_move rfl) ?_
      refine ops_val (ex_quo rfl rfl (by omega) (tdivN .u64 v1 128 (IntWalk.u64_in _ (by omega)))) ?_
      refine ops_val (ex_assign rfl) ?_
      refine ops_nil ?_
      refine nR20 ?_
      refine run_nil (blk_normal ?_)
      refine run_nil (rnd_normal ?_)
      exact ⟨v1 / 128, by omega, v1 / 128, pre ++ [UInt8.ofNat (v1 % 128 + 128)], _, g3, _, cap3, u8s pre ++ [Value.int .u8 ((v1 % 128 + 128 : Nat) : Int)], sp3, rfl, (fs (fn (fs (fs (fn (fn (fn (fn (fn (fn (fn (fn (fn (fn (fn (fn (fn (fn (fn (fn f0)))))))))))))))))))), rfl, by omega, by simp, by rw [u8s_append, u8s_one, u8n (by omega)], by rw [henc, enc_ge (by omega)]; simp, hmc3, hcap3, hg3, H3.pick [0] (by decide)⟩
    · skip
      refine ops_nil ?_
      refine nR20 ?_
      refine run_cond_false rfl ?_
      refine run_exit ?_
      refine rnd_exit ?_
      refine blk_exit ?_
      refine run_seq ?_
      refine run_region ?_
      refine ops_val (ex_move rfl) ?_
      refine ops_val (ex_move rfl) ?_
      refine ops_val (ex_conv Tryz.underlying5 Tryz.underlying136 rfl (u8w v1)) ?_
      refine ops_buildSlice Tryz.underlying29 ty5 H1 rfl (by decide) rfl ?_
      intro w2 g2 H2 hg2
      refine nO20 ?_
      refine ops_append Tryz.underlying29 ty5 (by decide) H2 0 rfl rfl (u8s_length1 pre) hcap hmc hg0 rfl (H2.rd (i := 1) (o := some g2) (xs := [Value.int .u8 ((v1 % 256 : Nat) : Int)]) (sp := []) rfl rfl (by decide)) rfl (by omega) (by omega) (by decide) ?_
      intro w3 g3 cap3 sp3 H3 hcap3 hmc3 hg3
      refine ops_val (ex_assign rfl) ?_
      refine ops_nil ?_
      refine nR20 ?_
      refine run_ret ?_
      refine fin_ret1 rfl rfl ?_
      have e1 : enc v = pre ++ [UInt8.ofNat v1] := by rw [henc, enc_lt (by omega)]
      have e2 : u8s (enc v) = u8s pre ++ [.int .u8 ((v1 % 256 : Nat) : Int)] := by rw [e1, u8s_append, u8s_one, u8n (by omega), Nat.mod_eq_of_lt (by omega)]
      have e3 : (enc v).length = pre.length + 1 := by rw [e1]; simp
      unfold Own
      rw [e2, e3]
      exact ⟨g3, cap3, sp3, rfl, hmc3, hcap3, hg3, H3.pick [0] (by decide)⟩
set_option maxRecDepth 100000 in
set_option maxHeartbeats 4000000 in
theorem rint_any (n : Int) (w0 : World) (hlo : -9223372036854775808 ≤ n) (hhi : n ≤ 9223372036854775807) :
    Does Tryz.prog 77 #[.int .i64 n] w0 (fun r w' => Own w0 w' r (encInt n)) := by
  refine does_of Tryz.func77 Tryz.ntmps77 rfl ?_
  refine nR16 ?_
  have H := Hp.refl w0
  refine run_seq ?_
  refine run_region ?_
  refine ops_val (ex_assign rfl) ?_
  refine ops_nil ?_
  refine nR16 ?_
  refine run_seq ?_
  refine run_seq ?_
  refine run_region ?_
  refine ops_val (ex_move rfl) ?_
  refine ops_test (ex_geq rfl rfl) (fun hp4 => ?_) (fun hp4 => ?_)
  · obtain ⟨m, rfl⟩ := Int.eq_ofNat_of_zero_le (show 0 ≤ n by omega)
    refine ops_nil ?_
    refine nR16 ?_
    refine run_cond_true rfl ?_
    refine run_seq ?_
    refine run_region ?_
    refine ops_val (ex_move rfl) ?_
    refine ops_val (ex_conv Tryz.underlying136 Tryz.underlying3 rfl (IntWalk.u64_in _ (by omega))) ?_
    refine ops_val (ex_mul rfl rfl ((IntWalk.u64_in _ (by omega)).trans (show (2 * (m : Int)) = ((2 * m : Nat) : Int) by omega))) ?_
    refine ops_call_own (ex_call gf99 rfl) (rnum_any (2 * m) _ (by omega)) ?_
    intro w1 g1 c1 sp1 hm1 hc1 hg1 H1
    refine nO16 ?_
    refine ops_val (ex_assign rfl) ?_
    refine ops_nil ?_
    refine nR16 ?_
    refine run_ret ?_
    refine fin_ret1 rfl rfl ?_
    have e : encInt (m : Int) = enc (2 * m) := by rw [encInt_eq]; unfold zig; rw [if_neg (by omega)]; congr 1
    rw [e]
    exact ⟨g1, c1, sp1, rfl, hm1, hc1, hg1, H1⟩
  · skip
    refine ops_nil ?_
    refine nR16 ?_
    refine run_cond_false rfl ?_
    refine run_skip ?_
    refine run_seq ?_
    refine run_region ?_
    refine ops_val (ex_move rfl) ?_
    refine ops_val (ex_add rfl rfl (IntWalk.i64_in _ (by omega))) ?_
    refine ops_val (ex_neg rfl ((IntWalk.i64_in _ (by omega)).trans (show (0 : Int) - (n + 1) = (((-n - 1).toNat : Nat) : Int) by omega))) ?_
    refine ops_val (ex_conv Tryz.underlying136 Tryz.underlying3 rfl (IntWalk.u64_in _ (by omega))) ?_
    refine nO16 ?_
    refine ops_val (ex_mul rfl rfl ((IntWalk.u64_in _ (by omega)).trans (show (2 * (((-n - 1).toNat : Nat) : Int)) = ((2 * (-n - 1).toNat : Nat) : Int) by omega))) ?_
    refine ops_val (ex_add rfl rfl ((IntWalk.u64_in _ (by omega)).trans (show (((2 * (-n - 1).toNat : Nat) : Int) + 1) = ((2 * (-n - 1).toNat + 1 : Nat) : Int) by omega))) ?_
    refine ops_call_own (ex_call gf99 rfl) (rnum_any (2 * (-n - 1).toNat + 1) _ (by omega)) ?_
    intro w1 g1 c1 sp1 hm1 hc1 hg1 H1
    refine ops_val (ex_assign rfl) ?_
    refine ops_nil ?_
    refine nR16 ?_
    refine run_ret ?_
    refine fin_ret1 rfl rfl ?_
    have e : encInt n = enc (2 * (-n - 1).toNat + 1) := by rw [encInt_eq]; unfold zig; rw [if_pos (by omega)]; congr 1; omega
    rw [e]
    exact ⟨g1, c1, sp1, rfl, hm1, hc1, hg1, H1⟩
set_option maxRecDepth 100000 in
set_option maxHeartbeats 4000000 in
theorem rtext_any (A : Option Addr) (b : List UInt8) (c : Nat) (w0 : World) (hr : Rd w0 A b.length 1 (u8s b)) (hb : b.length ≤ 211106232532900) :
    Does Tryz.prog 87 #[.slice A b.length c] w0 (fun r w' => Own w0 w' r (encText b)) := by
  have hl10 := enc_len64 (v := b.length) (by omega)
  refine does_of Tryz.func87 Tryz.ntmps87 rfl ?_
  change Run _ _ _ _ [.slice A b.length c, undef, undef, undef, undef, undef, undef, undef, undef] _
  have H := Hp.refl w0
  refine run_seq ?_
  refine run_region ?_
  refine ops_val (ex_assign rfl) ?_
  refine ops_nil ?_
  change Run _ _ _ _ [_, _, _, _, _, _, _, _, _] _
  refine run_seq ?_
  refine run_region ?_
  refine ops_val (ex_move rfl) ?_
  refine ops_val (ex_len_slice Tryz.underlying29 rfl) ?_
  refine ops_val (ex_conv Tryz.underlying136 Tryz.underlying3 rfl ((IntWalk.u64_in _ (by omega)))) ?_
  refine ops_call_own (ex_call gf99 rfl) (rnum_any b.length _ (by omega)) ?_
  intro w1 g1 c1 sp1 hm1 hc1 hg1 H1
  change Ops _ _ _ _ _ _ [_, _, _, _, _, _, _, _, _] _
  refine ops_val (ex_move rfl) ?_
  refine ops_append Tryz.underlying29 ty5 (by decide) H1 0 rfl rfl (u8s_length1 _) hc1 hm1 hg1 rfl (hr.to0 H1) (u8s_one' b) (by omega) (by omega) (by decide) ?_
  intro w2 g3 cap3 sp3 H2 hcap3 hmc3 hg3
  refine ops_val (ex_assign rfl) ?_
  refine ops_nil ?_
  change Run _ _ _ _ [_, _, _, _, _, _, _, _, _] _
  refine run_ret ?_
  refine fin_ret1 rfl rfl ?_
  unfold Own
  rw [encText_eq, u8s_append, List.length_append]
  exact ⟨g3, cap3, sp3, rfl, hmc3, hcap3, hg3, H2⟩
set_option maxRecDepth 100000 in
set_option maxHeartbeats 4000000 in
theorem vnum_w (gp go o : Nat) (g0 : Option Nat) (cap0 : Nat) (sp0 : List Value) (st : WS) (T : TypeId) (cs vs : List Value) (fd : List Fv) (w0 : World) (H0 : Hp w0 w0 (bl (vw gp g0 cap0 sp0 st ++ [(some go, T, cs)])) (vw gp g0 cap0 sp0 st ++ [(some go, T, cs)])) (M : Nat) (hM : M + 65545 * fd.length ≤ 1000000000000) (hP : POk M g0 cap0 sp0 st) (hF : FCs w0 (vw gp g0 cap0 sp0 st ++ [(some go, T, cs)]) fd vs) (hat : At cs o vs) (hk : fd.map Fv.kd = [.int]) :
    Does Tryz.prog 48 #[.pointer (some ⟨gp, 0, none⟩), .pointer (some ⟨go, o, none⟩)] w0 (fun r w' => ∃ g1 cap1 sp1, POk (M + 65545 * fd.length) g1 cap1 sp1 (vAll fd st) ∧ Hp w0 w' (bl (vw gp g0 cap0 sp0 st ++ [(some go, T, cs)])) (vw gp g1 cap1 sp1 (vAll fd st) ++ [(some go, T, cs)])) := by
  refine does_of Tryz.func48 Tryz.ntmps48 rfl ?_
  refine nR28 ?_
  obtain ⟨nn, rfl⟩ := one_int hk
  have H := H0
  obtain ⟨v, hve, hv2⟩ := hF.head
  subst hve
  have hcq := hat 0 v rfl
  rw [Nat.add_zero] at hcq
  have hfit := lt_of_get hcq
  have hmost := hP.most
  simp only [List.length_cons, List.length_nil] at hM
  obtain ⟨rfl, hn1, hn2⟩ := hv2
  have hxl := encF_len (f := .int nn) ⟨hn1, hn2⟩ rfl
  rw [show encF (.int nn) = encInt nn from rfl] at hxl
  refine run_seq ?_
  refine run_seq ?_
  refine run_region ?_
  refine ops_val (ex_move rfl) ?_
  refine ops_val (ex_nilCheck rfl) ?_
  refine ops_val (ex_fieldAddr fl51_1 rfl) ?_
  refine ops_val (ex_load ty49 rfl (H.cell (i := 0) rfl rfl)) ?_
  refine nO28 ?_
  refine ops_true (ex_eql_nil_ptr Tryz.underlying49 rfl) (rfl) ?_
  refine ops_nil ?_
  refine nR28 ?_
  refine run_cond_true rfl ?_
  refine run_seq ?_
  refine run_mixZ 12 [(true, 0), (true, 1), (true, 2), (true, 3), (true, 4), (true, 5), (true, 6), (true, 7), (false, 8), (false, 9), (true, 10), (true, 11), (false, 12)] H [0, 2] mixed (by decide) (by kernel_rfl) ?_
  rintro w1 hw1
  have H1 := Hp.drew H; rw [← hw1] at H1
  refine mixz_p rfl ?_
  refine mix1_val (fun wz hz => ex_move rfl) ?_
  refine mixz_p rfl ?_
  refine mix1_val (fun wz hz => ex_move rfl) ?_
  refine mixz_p rfl ?_
  refine mix1_val (fun wz hz => ex_nilCheck rfl) ?_
  refine mixz_p rfl ?_
  refine mix1_val (fun wz hz => ex_fieldAddr fl51_0 rfl) ?_
  refine nZ28 ?_
  refine mixz_p rfl ?_
  refine mix1_val (fun wz hz => ex_load ty29 rfl (hz.cell (i := 0) rfl rfl)) ?_
  refine mixz_p rfl ?_
  refine mix1_val (fun wz hz => ex_move rfl) ?_
  refine mixz_p rfl ?_
  refine mix1_val (fun wz hz => ex_nilCheck rfl) ?_
  refine mixz_p rfl ?_
  refine mix1_val (fun wz hz => ex_load ty3 rfl (hz.cell (i := 1) rfl hcq)) ?_
  refine nZ28 ?_
  refine mixz_o rfl ?_
  refine ops_call_own (ex_call gf77 rfl) (rint_any nn _ hn1 hn2) ?_
  intro w2 g1 c1 sp1 hm1 hc1 hg1 Hd
  have H2 := H1.call0 Hd
  refine ops_nil ?_
  refine ⟨fun hne => H2.pick [0, 2] (by decide), ?_⟩
  refine nZ28 ?_
  refine mixz_o rfl ?_
  refine ops_app8 Tryz.underlying29 ty5 H2 1 (L := st.out) (M := (encInt nn)) (g := g0) (sp := sp0) rfl rfl hP.room hP.le hP.nil rfl (H2.rd (i := 3) (o := g1) (xs := u8s (encInt nn)) (sp := sp1) rfl (u8s_length1 _) (by decide)) (by omega) ?_
  intro w3 g3 cap3 sp3 H3 hmc3 hcap3 hg3
  refine ops_nil ?_
  refine ⟨fun hne => H3.pick [0, 2] (by decide), ?_⟩
  refine nZ28 ?_
  refine mixz_p rfl ?_
  refine mix1_val (fun wz hz => ex_nilCheck rfl) ?_
  refine mixz_p rfl ?_
  refine mix1_val (fun wz hz => ex_fieldAddr fl51_0 rfl) ?_
  refine mixz_o rfl ?_
  refine ops_store1 ty29 H3 0 rfl rfl rfl rfl (by first | decide | simp) rfl ?_
  intro w4 H4
  refine ops_nil ?_
  refine ⟨fun hne => absurd rfl hne, ?_⟩
  refine nZ28 ?_
  refine mixz_nil ?_
  refine nR28 ?_
  refine run_ret ?_
  refine fin_ret0 rfl ?_
  exact ⟨g3, cap3, sp3, ⟨hmc3, hcap3, hg3, by have hll : (st.out ++ encInt nn).length = (st.out).length + (encInt nn).length := List.length_append; show (st.out ++ encInt nn).length ≤ _; simp only [List.length_cons, List.length_nil] at hll ⊢; omega⟩, H4.pick [0, 1, 2] (by decide)⟩
set_option maxRecDepth 100000 in
set_option maxHeartbeats 4000000 in
theorem vnums_w (gp go o : Nat) (g0 : Option Nat) (cap0 : Nat) (sp0 : List Value) (st : WS) (T : TypeId) (cs vs : List Value) (fd : List Fv) (w0 : World) (H0 : Hp w0 w0 (bl (vw gp g0 cap0 sp0 st ++ [(some go, T, cs)])) (vw gp g0 cap0 sp0 st ++ [(some go, T, cs)])) (M : Nat) (hM : M + 65545 * fd.length ≤ 1000000000000) (hP : POk M g0 cap0 sp0 st) (hF : FCs w0 (vw gp g0 cap0 sp0 st ++ [(some go, T, cs)]) fd vs) (hat : At cs o vs) (A : Option Addr) (m c : Nat) (hm : m ≤ 1000000) (hk : fd.map Fv.kd = List.replicate m .int) (hA : Rd w0 A m 1 (ptrs go o m)) (hS : ∀ p, A = some p → p.block ∉ bl (vw gp g0 cap0 sp0 st ++ [(some go, T, cs)])) :
    Does Tryz.prog 45 #[.pointer (some ⟨gp, 0, none⟩), .slice A m c] w0 (fun r w' => ∃ g1 cap1 sp1, POk (M + 65545 * fd.length) g1 cap1 sp1 (vAll fd st) ∧ Hp w0 w' (bl (vw gp g0 cap0 sp0 st ++ [(some go, T, cs)])) (vw gp g1 cap1 sp1 (vAll fd st) ++ [(some go, T, cs)])) := by
  refine does_of Tryz.func45 Tryz.ntmps45 rfl ?_
  refine nR17 ?_
  have H := H0
  have hlen : fd.length = m := by have := congrArg List.length hk; simpa using this
  refine run_seq ?_
  refine run_region ?_
  refine ops_val (ex_assign rfl) ?_
  refine ops_nil ?_
  refine nR17 ?_
  refine run_block ?_
  refine run_loop (fun n l w => ∃ (q : Nat) (y : Int) (g : Option Nat) (cap : Nat) (sp : List Value), m - q = n ∧ Fits [some (.pointer (some ⟨gp, 0, none⟩)), some (.slice A m c), none, none, some (.int .i64 y), none, none, none, none, none, none, none, none, none, none, none, none] l ∧ y = q ∧ q ≤ m ∧ POk (M + 65545 * q) g cap sp (vAll (fd.take q) st) ∧ Hp w0 w (bl (vw gp g0 cap0 sp0 st ++ [(some go, T, cs)])) (vw gp g cap sp (vAll (fd.take q) st) ++ [(some go, T, cs)])) (m) ?_ ?_
  · exact ⟨0, _, g0, cap0, sp0, rfl, (fs (fs (fn (fn (fs (fn (fn (fn (fn (fn (fn (fn (fn (fn (fn (fn (fn f0))))))))))))))))), rfl, Nat.zero_le _, hP, H⟩
  · rintro n l w1 ⟨q, y, g, cap, sp, rfl, hfit, rfl, hq, hP, H1⟩
    obtain ⟨j, rfl⟩ := hfit.open
    refine nR17 ?_
    clear hfit
    refine run_seq ?_
    refine run_seq ?_
    refine run_region ?_
    refine ops_val (ex_move rfl) ?_
    refine ops_val (ex_move rfl) ?_
    refine ops_val (ex_len_slice Tryz.underlying130 rfl) ?_
    refine ops_test (ex_lss rfl rfl) (fun hp8 => ?_) (fun hp8 => ?_)
    · have hql : q < m := by omega
      have hqf : q < fd.length := by omega
      obtain ⟨v, hv1, hv2⟩ := hF.each q hqf
      have hsn := vAll_snoc hqf st
      have hcq := hat q v hv1
      obtain ⟨pa, hpa⟩ := hA.some_ (by omega)
      subst hpa
      have hkd : fd[q].kd = .int := by
        have := congrArg (fun l => l[q]?) hk
        simpa [hqf, hql] using this
      obtain ⟨nn, hfq⟩ : ∃ x, fd[q] = .int x := by
        generalize fd[q] = fq at hkd
        cases fq <;> first | exact ⟨_, rfl⟩ | cases hkd
      rw [hfq] at hv2 hsn
      obtain ⟨st1, hst⟩ : ∃ x, vAll (fd.take q) st = x := ⟨_, rfl⟩
      rw [hst] at hsn H1 hP
      refine ops_nil ?_
      refine nR17 ?_
      refine run_cond_true rfl ?_
      refine run_skip ?_
      refine run_seq ?_
      refine run_block ?_
      refine run_region ?_
      refine ops_val (ex_move rfl) ?_
      refine ops_val (ex_move rfl) ?_
      refine ops_val (ex_move rfl) ?_
      refine ops_val (ex_idx Tryz.underlying130 ty82 rfl rfl rfl hql (Nat.mul_one _)) ?_
      refine nO17 ?_
      refine ops_val (ex_load ty82 rfl ((hA.to H1 hS).cells pa rfl q _ (ptrs_get hql))) ?_
      have hk1 := vnum_w gp go (o + q) g cap sp st1 T cs [v] [.int nn] _ H1.here (M + 65545 * q) (by simp only [List.length_cons, List.length_nil]; omega) hP (FPs.one (FC.to (f := .int nn) (es := vw gp g0 cap0 sp0 st ++ [(some go, T, cs)]) hv2 H1)) (fun i u hu => by cases i with | zero => cases hu; exact hcq | succ i => simp at hu) rfl
      refine ops_call (ex_call gf48 rfl) hk1 ?_
      rintro _ w2 ⟨g, cap, sp, hP, Hd⟩
      have H2 := H1.all Hd
      refine ops_nil ?_
      refine nR17 ?_
      refine run_nil (blk_normal ?_)
      refine run_region ?_
      refine ops_val (ex_move rfl) ?_
      refine ops_val (ex_add rfl rfl (IntWalk.i64_in _ (by omega))) ?_
      refine ops_val (ex_assign rfl) ?_
      refine ops_nil ?_
      refine nR17 ?_
      refine run_nil (rnd_normal ?_)
      exact ⟨m - (q + 1), by omega, q + 1, _, g, cap, sp, rfl, (fs (fs (fn (fn (fs (fn (fn (fn (fn (fn (fn (fn (fn (fn (fn (fn (fn f0))))))))))))))))), rfl, by omega, by rw [hsn]; exact hP.mono (by simp only [List.length_cons, List.length_nil]; omega), by rw [hsn]; exact H2⟩
    · have hqm : q = m := by omega
      subst hqm
      rw [List.take_of_length_le (by omega)] at H1 hP
      rw [← hlen] at hP
      refine ops_nil ?_
      refine nR17 ?_
      refine run_cond_false rfl ?_
      refine run_exit ?_
      refine rnd_exit ?_
      refine blk_exit ?_
      refine run_nil ?_
      refine fin_end0 rfl ?_
      exact ⟨g, cap, sp, hP, H1⟩
set_option maxRecDepth 100000 in
set_option maxHeartbeats 4000000 in
theorem vflag_w (gp go o : Nat) (g0 : Option Nat) (cap0 : Nat) (sp0 : List Value) (st : WS) (T : TypeId) (cs vs : List Value) (fd : List Fv) (w0 : World) (H0 : Hp w0 w0 (bl (vw gp g0 cap0 sp0 st ++ [(some go, T, cs)])) (vw gp g0 cap0 sp0 st ++ [(some go, T, cs)])) (M : Nat) (hM : M + 65545 * fd.length ≤ 1000000000000) (hP : POk M g0 cap0 sp0 st) (hF : FCs w0 (vw gp g0 cap0 sp0 st ++ [(some go, T, cs)]) fd vs) (hat : At cs o vs) (hk : fd.map Fv.kd = [.flag]) :
    Does Tryz.prog 46 #[.pointer (some ⟨gp, 0, none⟩), .pointer (some ⟨go, o, none⟩)] w0 (fun r w' => ∃ g1 cap1 sp1, POk (M + 65545 * fd.length) g1 cap1 sp1 (vAll fd st) ∧ Hp w0 w' (bl (vw gp g0 cap0 sp0 st ++ [(some go, T, cs)])) (vw gp g1 cap1 sp1 (vAll fd st) ++ [(some go, T, cs)])) := by
  refine does_of Tryz.func46 Tryz.ntmps46 rfl ?_
  refine nR30 ?_
  obtain ⟨x, rfl⟩ := one_flag hk
  have H := H0
  obtain ⟨v, hve, hv2⟩ := hF.head
  subst hve
  have hcq := hat 0 v rfl
  rw [Nat.add_zero] at hcq
  have hfit := lt_of_get hcq
  have hmost := hP.most
  simp only [List.length_cons, List.length_nil] at hM
  obtain rfl : v = .bool x := hv2
  refine run_seq ?_
  refine run_seq ?_
  refine run_region ?_
  refine ops_val (ex_move rfl) ?_
  refine ops_val (ex_nilCheck rfl) ?_
  refine ops_val (ex_fieldAddr fl51_1 rfl) ?_
  refine ops_val (ex_load ty49 rfl (H.cell (i := 0) rfl rfl)) ?_
  refine nO30 ?_
  refine ops_false (ex_neq_nil_ptr Tryz.underlying49 rfl) (by simp) ?_
  refine ops_nil ?_
  refine nR30 ?_
  refine run_cond_false rfl ?_
  refine run_skip ?_
  refine run_seq ?_
  refine run_region ?_
  refine ops_val (ex_assign rfl) ?_
  refine ops_nil ?_
  refine nR30 ?_
  refine run_seq ?_
  refine run_seq ?_
  refine run_region ?_
  refine ops_val (ex_move rfl) ?_
  refine ops_val (ex_nilCheck rfl) ?_
  refine ops_val (ex_load ty4 rfl (H.cell (i := 2) rfl hcq)) ?_
  refine ops_nil ?_
  refine nR30 ?_
  refine run_cond rfl (fun hb19 => ?_) (fun hb19 => ?_)
  · subst hb19
    refine run_region ?_
    refine ops_val (ex_assign rfl) ?_
    refine ops_nil ?_
    refine nR30 ?_
    refine run_region ?_
    refine ops_val (ex_move rfl) ?_
    refine ops_val (ex_move rfl) ?_
    refine ops_val (ex_nilCheck rfl) ?_
    refine ops_val (ex_fieldAddr fl51_0 rfl) ?_
    refine nO30 ?_
    refine ops_val (ex_load ty29 rfl (H.cell (i := 0) rfl rfl)) ?_
    refine ops_val (ex_move rfl) ?_
    refine ops_buildSlice Tryz.underlying29 ty5 H (cs := [.int .u8 1]) rfl (by decide) rfl ?_
    intro w1 gb H1 hgb
    have HQ : Hp _ w1 _ (vw gp g0 cap0 sp0 st ++ [(some go, T, cs), (some gb, 5, u8s [1] ++ [])]) := H1
    refine ops_app8 Tryz.underlying29 ty5 HQ 1 (L := st.out) (M := [1]) (g := g0) (sp := sp0) rfl rfl hP.room hP.le hP.nil rfl (HQ.rd (i := 3) (o := some gb) (xs := u8s [1]) (sp := []) rfl (u8s_length1 _) (by decide)) (by simp only [List.length_cons, List.length_nil]; omega) ?_
    intro w2 g3 cap3 sp3 H2 hmc3 hcap3 hg3
    refine nO30 ?_
    refine ops_val (ex_nilCheck rfl) ?_
    refine ops_val (ex_fieldAddr fl51_0 rfl) ?_
    refine ops_store1 ty29 H2 0 rfl rfl rfl rfl (by first | decide | simp) rfl ?_
    intro w3 H3
    refine ops_nil ?_
    refine nR30 ?_
    refine run_nil ?_
    refine fin_end0 rfl ?_
    exact ⟨g3, cap3, sp3, ⟨hmc3, hcap3, hg3, by have hll : (st.out ++ [1]).length = (st.out).length + ([1]).length := List.length_append; show (st.out ++ [1]).length ≤ _; simp only [List.length_cons, List.length_nil] at hll ⊢; omega⟩, H3.pick [0, 1, 2] (by decide)⟩
  · subst hb19
    refine run_skip ?_
    refine run_region ?_
    refine ops_val (ex_move rfl) ?_
    refine ops_val (ex_move rfl) ?_
    refine ops_val (ex_nilCheck rfl) ?_
    refine ops_val (ex_fieldAddr fl51_0 rfl) ?_
    refine nO30 ?_
    refine ops_val (ex_load ty29 rfl (H.cell (i := 0) rfl rfl)) ?_
    refine ops_val (ex_move rfl) ?_
    refine ops_buildSlice Tryz.underlying29 ty5 H (cs := [.int .u8 0]) rfl (by decide) rfl ?_
    intro w1 gb H1 hgb
    have HQ : Hp _ w1 _ (vw gp g0 cap0 sp0 st ++ [(some go, T, cs), (some gb, 5, u8s [0] ++ [])]) := H1
    refine ops_app8 Tryz.underlying29 ty5 HQ 1 (L := st.out) (M := [0]) (g := g0) (sp := sp0) rfl rfl hP.room hP.le hP.nil rfl (HQ.rd (i := 3) (o := some gb) (xs := u8s [0]) (sp := []) rfl (u8s_length1 _) (by decide)) (by simp only [List.length_cons, List.length_nil]; omega) ?_
    intro w2 g3 cap3 sp3 H2 hmc3 hcap3 hg3
    refine nO30 ?_
    refine ops_val (ex_nilCheck rfl) ?_
    refine ops_val (ex_fieldAddr fl51_0 rfl) ?_
    refine ops_store1 ty29 H2 0 rfl rfl rfl rfl (by first | decide | simp) rfl ?_
    intro w3 H3
    refine ops_nil ?_
    refine nR30 ?_
    refine run_nil ?_
    refine fin_end0 rfl ?_
    exact ⟨g3, cap3, sp3, ⟨hmc3, hcap3, hg3, by have hll : (st.out ++ [0]).length = (st.out).length + ([0]).length := List.length_append; show (st.out ++ [0]).length ≤ _; simp only [List.length_cons, List.length_nil] at hll ⊢; omega⟩, H3.pick [0, 1, 2] (by decide)⟩
set_option maxRecDepth 100000 in
set_option maxHeartbeats 4000000 in
theorem vbytes_w (gp go o : Nat) (g0 : Option Nat) (cap0 : Nat) (sp0 : List Value) (st : WS) (T : TypeId) (cs vs : List Value) (fd : List Fv) (w0 : World) (H0 : Hp w0 w0 (bl (vw gp g0 cap0 sp0 st ++ [(some go, T, cs)])) (vw gp g0 cap0 sp0 st ++ [(some go, T, cs)])) (M : Nat) (hM : M + 65545 * fd.length ≤ 1000000000000) (hP : POk M g0 cap0 sp0 st) (hF : FCs w0 (vw gp g0 cap0 sp0 st ++ [(some go, T, cs)]) fd vs) (hat : At cs o vs) (hk : fd.map Fv.kd = [.bytes]) :
    Does Tryz.prog 55 #[.pointer (some ⟨gp, 0, none⟩), .pointer (some ⟨go, o, none⟩)] w0 (fun r w' => ∃ g1 cap1 sp1, POk (M + 65545 * fd.length) g1 cap1 sp1 (vAll fd st) ∧ Hp w0 w' (bl (vw gp g0 cap0 sp0 st ++ [(some go, T, cs)])) (vw gp g1 cap1 sp1 (vAll fd st) ++ [(some go, T, cs)])) := by
  refine does_of Tryz.func55 Tryz.ntmps55 rfl ?_
  refine nR47 ?_
  obtain ⟨x, rfl⟩ := one_bytes hk
  have H := H0
  obtain ⟨sout, slong⟩ := st
  obtain ⟨v, hve, hv2⟩ := hF.head
  subst hve
  have hcq := hat 0 v rfl
  rw [Nat.add_zero] at hcq
  have hfit := lt_of_get hcq
  have hmost := hP.most
  simp only [List.length_cons, List.length_nil] at hM
  simp only at hmost
  obtain ⟨B, c, hve, hrd, hap⟩ := hv2
  subst hve
  refine run_seq ?_
  refine run_seq ?_
  refine run_region ?_
  refine ops_val (ex_move rfl) ?_
  refine ops_val (ex_nilCheck rfl) ?_
  refine ops_val (ex_fieldAddr fl51_1 rfl) ?_
  refine ops_val (ex_load ty49 rfl (H.cell (i := 0) rfl rfl)) ?_
  refine nO47 ?_
  refine ops_false (ex_neq_nil_ptr Tryz.underlying49 rfl) (by simp) ?_
  refine ops_nil ?_
  refine nR47 ?_
  refine run_cond_false rfl ?_
  refine run_skip ?_
  refine run_seq ?_
  cases slong
  · skip
    refine run_region ?_
    refine ops_val (ex_move rfl) ?_
    refine ops_val (ex_move rfl) ?_
    refine ops_val (ex_nilCheck rfl) ?_
    refine ops_val (ex_fieldAddr fl51_2 rfl) ?_
    refine nO47 ?_
    refine ops_val (ex_load ty4 rfl (H.cell (i := 0) rfl rfl)) ?_
    refine ops_val (ex_move rfl) ?_
    refine nO47 ?_
    refine ops_yes rfl ?_
    refine ops_val (ex_move rfl) ?_
    refine ops_yes rfl ?_
    refine ops_val (ex_nilCheck rfl) ?_
    refine nO47 ?_
    refine ops_yes rfl ?_
    refine ops_val (ex_load ty29 rfl (H.cell (i := 2) rfl hcq)) ?_
    refine ops_yes rfl ?_
    refine ops_val (ex_len_slice Tryz.underlying29 rfl) ?_
    refine nO47 ?_
    refine ops_yes rfl ?_
    refine ops_test (ex_gtr rfl rfl) (fun hp26 => ?_) (fun hp26 => ?_)
    · skip
      refine ops_val (ex_pick_f rfl rfl) ?_
      refine ops_val (ex_nilCheck rfl) ?_
      refine ops_val (ex_fieldAddr fl51_2 rfl) ?_
      refine ops_store1 ty4 H 0 rfl rfl rfl rfl (by first | decide | simp) rfl ?_
      intro w1 H1
      refine ops_nil ?_
      refine nR47 ?_
      refine run_seq ?_
      refine run_region ?_
      refine ops_val (ex_move rfl) ?_
      refine ops_val (ex_nilCheck rfl) ?_
      refine ops_val (ex_fieldAddr fl51_2 rfl) ?_
      refine ops_val (ex_load ty4 rfl (H1.cell (i := 0) rfl rfl)) ?_
      refine nO47 ?_
      refine ops_val (ex_not rfl) ?_
      refine ops_nil ?_
      refine nR47 ?_
      refine run_cond_false rfl ?_
      refine run_skip ?_
      refine run_nil ?_
      refine fin_end0 rfl ?_
      rw [vAll_bytes_long (st := ⟨sout, false⟩) (.inr (by simp [tooLong]; omega))]
      exact ⟨g0, cap0, sp0, ⟨hP.1, hP.2, hP.3, by have := hP.4; simp only at this ⊢; omega⟩, H1.pick [0, 1, 2] (by decide)⟩
    · skip
      refine ops_val (ex_pick_f rfl rfl) ?_
      refine ops_val (ex_nilCheck rfl) ?_
      refine ops_val (ex_fieldAddr fl51_2 rfl) ?_
      refine ops_store1 ty4 H 0 rfl rfl rfl rfl (by first | decide | simp) rfl ?_
      intro w1 H1
      refine ops_nil ?_
      refine nR47 ?_
      refine run_seq ?_
      refine run_region ?_
      refine ops_val (ex_move rfl) ?_
      refine ops_val (ex_nilCheck rfl) ?_
      refine ops_val (ex_fieldAddr fl51_2 rfl) ?_
      refine ops_val (ex_load ty4 rfl (H1.cell (i := 0) rfl rfl)) ?_
      refine nO47 ?_
      refine ops_val (ex_not rfl) ?_
      refine ops_nil ?_
      refine nR47 ?_
      refine run_cond_true rfl ?_
      refine run_mixZ 12 [(true, 0), (true, 1), (true, 2), (true, 3), (true, 4), (true, 5), (true, 6), (true, 7), (false, 8), (false, 9), (true, 10), (true, 11), (false, 12)] H1 [0, 2] mixed (by decide) (by kernel_rfl) ?_
      rintro w2 hw2
      have H2 := Hp.drew H1; rw [← hw2] at H2
      refine mixz_p rfl ?_
      refine mix1_val (fun wz hz => ex_move rfl) ?_
      refine mixz_p rfl ?_
      refine mix1_val (fun wz hz => ex_move rfl) ?_
      refine mixz_p rfl ?_
      refine mix1_val (fun wz hz => ex_nilCheck rfl) ?_
      refine mixz_p rfl ?_
      refine mix1_val (fun wz hz => ex_fieldAddr fl51_0 rfl) ?_
      refine nZ47 ?_
      refine mixz_p rfl ?_
      refine mix1_val (fun wz hz => ex_load ty29 rfl (hz.cell (i := 0) rfl rfl)) ?_
      refine mixz_p rfl ?_
      refine mix1_val (fun wz hz => ex_move rfl) ?_
      refine mixz_p rfl ?_
      refine mix1_val (fun wz hz => ex_nilCheck rfl) ?_
      refine mixz_p rfl ?_
      refine mix1_val (fun wz hz => ex_load ty29 rfl (hz.cell (i := 1) rfl hcq)) ?_
      refine nZ47 ?_
      refine mixz_o rfl ?_
      have hxl := encF_len (f := .bytes x) trivial (by simp [tooLong]; omega)
      rw [show encF (.bytes x) = encText x from rfl] at hxl
      refine ops_call_own (ex_call gf87 rfl) (rtext_any B x c _ (hrd.fc H2 hap) (by omega)) ?_
      intro w3 g1 c1 sp1 hm1 hc1 hg1 Hd
      have H3 := H2.call0 Hd
      refine ops_nil ?_
      refine ⟨fun hne => H3.pick [0, 2] (by decide), ?_⟩
      refine nZ47 ?_
      refine mixz_o rfl ?_
      refine ops_app8 Tryz.underlying29 ty5 H3 1 (L := sout) (M := (encText x)) (g := g0) (sp := sp0) rfl rfl hP.room hP.le hP.nil rfl (H3.rd (i := 3) (o := g1) (xs := u8s (encText x)) (sp := sp1) rfl (u8s_length1 _) (by decide)) (by omega) ?_
      intro w4 g3 cap3 sp3 H4 hmc3 hcap3 hg3
      refine ops_nil ?_
      refine ⟨fun hne => H4.pick [0, 2] (by decide), ?_⟩
      refine nZ47 ?_
      refine mixz_p rfl ?_
      refine mix1_val (fun wz hz => ex_nilCheck rfl) ?_
      refine mixz_p rfl ?_
      refine mix1_val (fun wz hz => ex_fieldAddr fl51_0 rfl) ?_
      refine mixz_o rfl ?_
      refine ops_store1 ty29 H4 0 rfl rfl rfl rfl (by first | decide | simp) rfl ?_
      intro w5 H5
      refine ops_nil ?_
      refine ⟨fun hne => absurd rfl hne, ?_⟩
      refine nZ47 ?_
      refine mixz_nil ?_
      refine nR47 ?_
      refine run_nil ?_
      refine fin_end0 rfl ?_
      rw [vAll_bytes_put (st := ⟨sout, false⟩) rfl (by simp [tooLong]; omega)]
      exact ⟨g3, cap3, sp3, ⟨hmc3, hcap3, hg3, by have hll : (sout ++ encText x).length = (sout).length + (encText x).length := List.length_append; show (sout ++ encText x).length ≤ _; simp only [List.length_cons, List.length_nil] at hll ⊢; omega⟩, H5.pick [0, 1, 2] (by decide)⟩
  · skip
    refine run_region ?_
    refine ops_val (ex_move rfl) ?_
    refine ops_val (ex_move rfl) ?_
    refine ops_val (ex_nilCheck rfl) ?_
    refine ops_val (ex_fieldAddr fl51_2 rfl) ?_
    refine nO47 ?_
    refine ops_val (ex_load ty4 rfl (H.cell (i := 0) rfl rfl)) ?_
    refine ops_val (ex_move rfl) ?_
    refine nO47 ?_
    refine ops_no rfl ?_
    refine ops_no rfl ?_
    refine nO47 ?_
    refine ops_no rfl ?_
    refine ops_no rfl ?_
    refine nO47 ?_
    refine ops_no rfl ?_
    refine ops_val (ex_pick_t rfl rfl) ?_
    refine ops_val (ex_nilCheck rfl) ?_
    refine ops_val (ex_fieldAddr fl51_2 rfl) ?_
    refine nO47 ?_
    refine ops_store1 ty4 H 0 rfl rfl rfl rfl (by first | decide | simp) rfl ?_
    intro w1 H1
    refine ops_nil ?_
    refine nR47 ?_
    refine run_seq ?_
    refine run_region ?_
    refine ops_val (ex_move rfl) ?_
    refine ops_val (ex_nilCheck rfl) ?_
    refine ops_val (ex_fieldAddr fl51_2 rfl) ?_
    refine ops_val (ex_load ty4 rfl (H1.cell (i := 0) rfl rfl)) ?_
    refine nO47 ?_
    refine ops_val (ex_not rfl) ?_
    refine ops_nil ?_
    refine nR47 ?_
    refine run_cond_false rfl ?_
    refine run_skip ?_
    refine run_nil ?_
    refine fin_end0 rfl ?_
    rw [vAll_bytes_long (st := ⟨sout, true⟩) (.inl rfl)]
    exact ⟨g0, cap0, sp0, ⟨hP.1, hP.2, hP.3, by have := hP.4; simp only at this ⊢; omega⟩, H1.pick [0, 1, 2] (by decide)⟩
set_option maxRecDepth 100000 in
set_option maxHeartbeats 4000000 in
theorem vtext_w (gp go o : Nat) (g0 : Option Nat) (cap0 : Nat) (sp0 : List Value) (st : WS) (T : TypeId) (cs vs : List Value) (fd : List Fv) (w0 : World) (H0 : Hp w0 w0 (bl (vw gp g0 cap0 sp0 st ++ [(some go, T, cs)])) (vw gp g0 cap0 sp0 st ++ [(some go, T, cs)])) (M : Nat) (hM : M + 65545 * fd.length ≤ 1000000000000) (hP : POk M g0 cap0 sp0 st) (hF : FCs w0 (vw gp g0 cap0 sp0 st ++ [(some go, T, cs)]) fd vs) (hat : At cs o vs) (hk : fd.map Fv.kd = [.text]) :
    Does Tryz.prog 47 #[.pointer (some ⟨gp, 0, none⟩), .pointer (some ⟨go, o, none⟩)] w0 (fun r w' => ∃ g1 cap1 sp1, POk (M + 65545 * fd.length) g1 cap1 sp1 (vAll fd st) ∧ Hp w0 w' (bl (vw gp g0 cap0 sp0 st ++ [(some go, T, cs)])) (vw gp g1 cap1 sp1 (vAll fd st) ++ [(some go, T, cs)])) := by
  refine does_of Tryz.func47 Tryz.ntmps47 rfl ?_
  refine nR38 ?_
  obtain ⟨x, rfl⟩ := one_text hk
  have H := H0
  obtain ⟨sout, slong⟩ := st
  obtain ⟨v, hve, hv2⟩ := hF.head
  subst hve
  have hcq := hat 0 v rfl
  rw [Nat.add_zero] at hcq
  have hfit := lt_of_get hcq
  have hmost := hP.most
  simp only [List.length_cons, List.length_nil] at hM
  simp only at hmost
  obtain rfl : v = strV x := hv2
  refine run_seq ?_
  refine run_region ?_
  refine ops_alloc ty29 H ?_
  intro w1 gv H1 hgv
  refine ops_store1 ty29 H1 3 rfl rfl rfl rfl (by decide) rfl ?_
  intro w2 H2
  refine ops_nil ?_
  refine nR38 ?_
  refine run_seq ?_
  refine run_seq ?_
  refine run_region ?_
  refine ops_val (ex_move rfl) ?_
  refine ops_val (ex_nilCheck rfl) ?_
  refine ops_val (ex_fieldAddr fl51_1 rfl) ?_
  refine ops_val (ex_load ty49 rfl (H2.cell (i := 0) rfl rfl)) ?_
  refine nO38 ?_
  refine ops_true (ex_eql_nil_ptr Tryz.underlying49 rfl) (rfl) ?_
  refine ops_nil ?_
  refine nR38 ?_
  refine run_cond_true rfl ?_
  refine run_seq ?_
  cases slong
  · skip
    refine run_region ?_
    refine ops_val (ex_move rfl) ?_
    refine ops_val (ex_move rfl) ?_
    refine ops_val (ex_nilCheck rfl) ?_
    refine ops_val (ex_fieldAddr fl51_2 rfl) ?_
    refine nO38 ?_
    refine ops_val (ex_load ty4 rfl (H2.cell (i := 0) rfl rfl)) ?_
    refine ops_val (ex_move rfl) ?_
    refine nO38 ?_
    refine ops_yes rfl ?_
    refine ops_val (ex_move rfl) ?_
    refine ops_yes rfl ?_
    refine ops_val (ex_nilCheck rfl) ?_
    refine nO38 ?_
    refine ops_yes rfl ?_
    refine ops_val (ex_load ty9 rfl (H2.cell (i := 2) rfl hcq)) ?_
    refine ops_yes rfl ?_
    refine ops_val (ex_len_string Tryz.underlying9 rfl) ?_
    rw [strV_size]
    refine nO38 ?_
    refine ops_yes rfl ?_
    refine ops_test (ex_gtr rfl rfl) (fun hp20 => ?_) (fun hp20 => ?_)
    · skip
      refine ops_val (ex_pick_f rfl rfl) ?_
      refine ops_val (ex_nilCheck rfl) ?_
      refine ops_val (ex_fieldAddr fl51_2 rfl) ?_
      refine ops_store1 ty4 H2 0 rfl rfl rfl rfl (by first | decide | simp) rfl ?_
      intro w3 H3
      refine ops_nil ?_
      refine nR38 ?_
      refine run_seq ?_
      refine run_seq ?_
      refine run_region ?_
      refine ops_val (ex_move rfl) ?_
      refine ops_val (ex_nilCheck rfl) ?_
      refine ops_val (ex_fieldAddr fl51_2 rfl) ?_
      refine ops_val (ex_load ty4 rfl (H3.cell (i := 0) rfl rfl)) ?_
      refine ops_nil ?_
      refine nR38 ?_
      refine run_cond_true rfl ?_
      refine run_ret ?_
      refine fin_ret0 rfl ?_
      rw [vAll_text_long (st := ⟨sout, false⟩) (.inr (by simp [tooLong]; omega))]
      exact ⟨g0, cap0, sp0, ⟨hP.1, hP.2, hP.3, by have := hP.4; simp only at this ⊢; omega⟩, H3.pick [0, 1, 2] (by decide)⟩
    · skip
      refine ops_val (ex_pick_f rfl rfl) ?_
      refine ops_val (ex_nilCheck rfl) ?_
      refine ops_val (ex_fieldAddr fl51_2 rfl) ?_
      refine ops_store1 ty4 H2 0 rfl rfl rfl rfl (by first | decide | simp) rfl ?_
      intro w3 H3
      refine ops_nil ?_
      refine nR38 ?_
      refine run_seq ?_
      refine run_seq ?_
      refine run_region ?_
      refine ops_val (ex_move rfl) ?_
      refine ops_val (ex_nilCheck rfl) ?_
      refine ops_val (ex_fieldAddr fl51_2 rfl) ?_
      refine ops_val (ex_load ty4 rfl (H3.cell (i := 0) rfl rfl)) ?_
      refine ops_nil ?_
      refine nR38 ?_
      refine run_cond_false rfl ?_
      refine run_skip ?_
      refine run_region ?_
      refine ops_val (ex_move rfl) ?_
      refine ops_val (ex_nilCheck rfl) ?_
      refine ops_val (ex_load ty9 rfl (H3.cell (i := 2) rfl hcq)) ?_
      have hgn := fresh_not H3 (g := w3.heap.size) (Nat.le_refl _)
      refine ops_strBytes Tryz.underlying9 Tryz.underlying29 Tryz.underlying5 H3 (s := x) rfl ?_
      intro w4 gs cs1 HB hrs hgs hsz
      rw [← hgs] at hgn
      have H4 := HB.here
      refine nO38 ?_
      refine ops_store1 ty29 H4 3 rfl rfl rfl rfl (by decide) rfl ?_
      intro w5 H5
      refine ops_nil ?_
      refine nR38 ?_
      refine run_seq ?_
      refine run_region ?_
      refine ops_val (ex_move rfl) ?_
      have HQ : Hp _ w5 _ ((vw gp g0 cap0 sp0 ⟨sout, false⟩ ++ [(some gv, 29, [Value.slice (some ⟨gs, 0, none⟩) x.length cs1])]) ++ [(some go, T, cs)]) := H5.pick [0, 1, 3, 2] (by decide)
      have hk1 := vbytes_w gp gv 0 g0 cap0 sp0 ⟨sout, false⟩ 29 [Value.slice (some ⟨gs, 0, none⟩) x.length cs1] [Value.slice (some ⟨gs, 0, none⟩) x.length cs1] [.bytes x] _ HQ.less.here M hM hP (FPs.one ⟨_, _, rfl, hrs.fc HQ.less (fun _ p hp => by cases hp; exact hgn), fun h0 => apt_to hrs h0 (fun p hp => by cases hp; exact hgn) HQ.less⟩) (fun i u hu => by rw [Nat.zero_add]; exact hu) rfl
      have hrs2 := hrs.fc HQ.less (fun _ p hp => by cases hp; exact hgn)
      refine ops_call (ex_call gf55 rfl) hk1 ?_
      rintro _ w6 ⟨g, cap, sp, hP, Hd⟩
      have hrs3 := hrs2.fc Hd (fun h0 => apt_to hrs h0 (fun p hp => by cases hp; exact hgn) HQ.less)
      have H6 := (HB.all (HQ.front Hd)).pick [0, 1, 3, 2] (by decide)
      refine ops_nil ?_
      refine nR38 ?_
      refine run_region ?_
      refine ops_val (ex_move rfl) ?_
      refine ops_val (ex_load ty29 rfl (H6.cell (i := 3) rfl rfl)) ?_
      refine ops_val (ex_bytesStr Tryz.underlying29 Tryz.underlying5 Tryz.underlying9 rfl hrs3) ?_
      refine ops_val (ex_nilCheck rfl) ?_
      refine nO38 ?_
      refine ops_store1 ty9 H6 2 rfl rfl rfl rfl hfit rfl ?_
      intro w7 H7
      refine ops_nil ?_
      refine nR38 ?_
      refine run_nil ?_
      refine fin_end0 rfl ?_
      have hsame : cs.set o (.string ⟨x.toArray⟩) = cs := by
        apply List.ext_getElem?
        intro i
        rw [List.getElem?_set]
        split
        · rename_i hi
          subst hi
          first
          | (rw [if_pos hfit, hcq]; rfl)
          | (rw [hcq]; rfl)
        · rfl
      have HN := (show ∀ (wa wb : World) (SS : List Nat), Hp wa wb SS (vw gp g cap sp (vAll [.bytes x] ⟨sout, false⟩) ++ [(some go, T, cs.set o (.string ⟨x.toArray⟩))]) → Hp wa wb SS (vw gp g cap sp (vAll [.bytes x] ⟨sout, false⟩) ++ [(some go, T, cs)]) from fun wa wb SS h => by rw [hsame] at h; exact h) _ _ _ (H7.pick [0, 1, 2] (by decide))
      exact ⟨g, cap, sp, hP, HN⟩
  · skip
    refine run_region ?_
    refine ops_val (ex_move rfl) ?_
    refine ops_val (ex_move rfl) ?_
    refine ops_val (ex_nilCheck rfl) ?_
    refine ops_val (ex_fieldAddr fl51_2 rfl) ?_
    refine nO38 ?_
    refine ops_val (ex_load ty4 rfl (H2.cell (i := 0) rfl rfl)) ?_
    refine ops_val (ex_move rfl) ?_
    refine nO38 ?_
    refine ops_no rfl ?_
    refine ops_no rfl ?_
    refine nO38 ?_
    refine ops_no rfl ?_
    refine ops_no rfl ?_
    refine nO38 ?_
    refine ops_no rfl ?_
    refine ops_val (ex_pick_t rfl rfl) ?_
    refine ops_val (ex_nilCheck rfl) ?_
    refine ops_val (ex_fieldAddr fl51_2 rfl) ?_
    refine nO38 ?_
    refine ops_store1 ty4 H2 0 rfl rfl rfl rfl (by first | decide | simp) rfl ?_
    intro w3 H3
    refine ops_nil ?_
    refine nR38 ?_
    refine run_seq ?_
    refine run_seq ?_
    refine run_region ?_
    refine ops_val (ex_move rfl) ?_
    refine ops_val (ex_nilCheck rfl) ?_
    refine ops_val (ex_fieldAddr fl51_2 rfl) ?_
    refine ops_val (ex_load ty4 rfl (H3.cell (i := 0) rfl rfl)) ?_
    refine ops_nil ?_
    refine nR38 ?_
    refine run_cond_true rfl ?_
    refine run_ret ?_
    refine fin_ret0 rfl ?_
    rw [vAll_text_long (st := ⟨sout, true⟩) (.inl rfl)]
    exact ⟨g0, cap0, sp0, ⟨hP.1, hP.2, hP.3, by have := hP.4; simp only at this ⊢; omega⟩, H3.pick [0, 1, 2] (by decide)⟩
theorem vwOut_of {gp go : Nat} {T : TypeId} {cs : List Value} {fd : List Fv} {a st : WS} {m n : Nat} {w0 w' : World} {S : List Nat} (ha : Alike a st) (hn : fd.length = n)
    (h : ∃ g1 cap1 sp1, POk (m + 65545 * fd.length) g1 cap1 sp1 (vAll fd st) ∧ Hp w0 w' S (vw gp g1 cap1 sp1 (vAll fd st) ++ [(some go, T, cs)])) : VwOut (m + 65545 * n) gp (wAll fd a) go T cs w0 S w' := by
  subst hn
  obtain ⟨g1, cap1, sp1, hP, H⟩ := h
  exact ⟨_, g1, cap1, sp1, alike_all fd ha, hP, H⟩
theorem kds_len {fd : List Fv} {ks : List Kd} (h : fd.map Fv.kd = ks) : fd.length = ks.length := by rw [← h]; simp
theorem kds_rep {fd : List Fv} {n : Nat} {k : Kd} (h : fd.map Fv.kd = List.replicate n k) : fd.length = n := by rw [kds_len h]; simp
theorem vnums_W : WalkWs Tryz.prog 45 .int := fun gp go o n c g cap sp st T cs x vs w0 m a A hn H0 hm hP ha hM hat hA hS => (vnums_w gp go o g cap sp st T cs vs x w0 H0 m (by rw [kds_rep hM.1]; omega) hP hM.2 hat A n c hn hM.1 hA hS).mono fun _ _ h => vwOut_of ha (kds_rep hM.1) h
theorem vnum_W : WalkW Tryz.prog 48 (Th.flat [.int]) := fun gp go o g cap sp st T cs x vs w0 m a H0 hm hP ha hM hat => (vnum_w gp go o g cap sp st T cs vs x w0 H0 m (by rw [kds_len hM.1]; change m + 65545 ≤ _ at hm; show m + 65545 * 1 ≤ _; omega) hP hM.2 hat hM.1).mono fun _ _ h => vwOut_of ha (kds_len hM.1) h
theorem vflag_W : WalkW Tryz.prog 46 (Th.flat [.flag]) := fun gp go o g cap sp st T cs x vs w0 m a H0 hm hP ha hM hat => (vflag_w gp go o g cap sp st T cs vs x w0 H0 m (by rw [kds_len hM.1]; change m + 65545 ≤ _ at hm; show m + 65545 * 1 ≤ _; omega) hP hM.2 hat hM.1).mono fun _ _ h => vwOut_of ha (kds_len hM.1) h
theorem vbytes_W : WalkW Tryz.prog 55 (Th.flat [.bytes]) := fun gp go o g cap sp st T cs x vs w0 m a H0 hm hP ha hM hat => (vbytes_w gp go o g cap sp st T cs vs x w0 H0 m (by rw [kds_len hM.1]; change m + 65545 ≤ _ at hm; show m + 65545 * 1 ≤ _; omega) hP hM.2 hat hM.1).mono fun _ _ h => vwOut_of ha (kds_len hM.1) h
theorem vtext_W : WalkW Tryz.prog 47 (Th.flat [.text]) := fun gp go o g cap sp st T cs x vs w0 m a H0 hm hP ha hM hat => (vtext_w gp go o g cap sp st T cs vs x w0 H0 m (by rw [kds_len hM.1]; change m + 65545 ≤ _ at hm; show m + 65545 * 1 ≤ _; omega) hP hM.2 hat hM.1).mono fun _ _ h => vwOut_of ha (kds_len hM.1) h
end Go.Proofs.YtoeobicpdeklaaaGreat
