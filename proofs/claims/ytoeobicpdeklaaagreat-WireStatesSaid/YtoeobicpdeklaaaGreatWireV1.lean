/- Walks of layer 2, printed by wip/gen/codec.py. -/
import Derived.Test.YtoeobicpdeklaaaGreatNrm
import Derived.Test.YtoeobicpdeklaaaGreatWireM2
import Derived.Test.YtoeobicpdeklaaaGreatWireO
namespace Go.Proofs.YtoeobicpdeklaaaGreat
open Go Go.RowKit
set_option linter.unusedVariables false
attribute [local irreducible] Still Ops Does Cd
@[reducible] def thstateF : Th := Th.pair (Th.pair (Th.pair (Th.pair (Th.pair (Th.pair (Th.flat [.int, .int, .flag, .text, .text, .int]) (Th.many thaccount false)) (Th.many thmark false)) (Th.many thwait false)) (Th.many thdeal false)) (Th.many thend false)) (Th.flat [.int, .int, .int, .text, .text, .int, .int, .int, .int, .int, .text, .text, .int, .int, .bytes, .int, .int, .int])
set_option maxRecDepth 100000 in
set_option maxHeartbeats 4000000 in
theorem vaccount_w (gp go o : Nat) (g : Option Nat) (cap : Nat) (sp : List Value) (st : WS) (U : TypeId) (cs : List Value) (x : thaccount.X) (vs : List Value) (w0 : World) (m : Nat) (a : WS) (H0 : Hp w0 w0 (bl (vwo gp g cap sp st go U cs)) (vwo gp g cap sp st go U cs)) (hm : m + thaccount.mx ≤ 1000000000) (hP : POk m g cap sp st) (ha : Alike a st) (hM : thaccount.M w0 (fun b => b ∉ bl (vwo gp g cap sp st go U cs)) x vs) (hat : At cs o vs) :
    Does Tryz.prog 81 #[.pointer (some ⟨gp, 0, none⟩), .pointer (some ⟨go, o, none⟩)] w0 (fun _ w' => VwOut (m + thaccount.mx) gp (wAll (thaccount.fl x) a) go U cs w0 (bl (vwo gp g cap sp st go U cs)) w') := by
  refine does_of Tryz.func81 Tryz.ntmps81 rfl ?_
  refine nR33 ?_
  change m + 983166 ≤ 1000000000 at hm
  have HS : VSt gp go o w0 (bl (vwo gp g cap sp st go U cs)) w0 (m + 0) a st thaccount x vs U cs g cap sp := ⟨H0, hP, ha, hM, hat⟩
  have H := HS.H.here
  refine run_seq ?_
  refine run_region ?_
  refine ops_val (ex_move rfl) ?_
  refine ops_val (ex_move rfl) ?_
  refine ops_val (ex_nilCheck rfl) ?_
  refine nO33 ?_
  refine ops_val (ex_fieldAddr fl94_0 rfl) ?_
  refine ops_call (ex_call gf47 rfl) (HS.one (p := 0) vtext_W (show m + 0 + 65545 ≤ _ by omega) (fun _ _ hM => (Th.part (Th.fst (Th.fst hM)) 0 1)) (At.cast (At.trans (At.of_take (At.of_take (At.self _))) (At.sub _ 0 1)) (by decide))) ?_
  rintro _ w1 ⟨st, g, cap, sp, HS0⟩
  have HS := VSt.re HS0 (m2 := m + 65545) (by show m + 0 + 65545 = m + 65545; omega)
  have H1 := HS.H.here
  refine ops_nil ?_
  refine nR33 ?_
  refine run_seq ?_
  refine run_region ?_
  refine ops_val (ex_move rfl) ?_
  refine ops_val (ex_move rfl) ?_
  refine ops_val (ex_nilCheck rfl) ?_
  refine nO33 ?_
  refine ops_val (ex_fieldAddr fl94_1 rfl) ?_
  refine ops_call (ex_call gf102 rfl) (HS.one (p := 1) vspan_W (show m + 65545 + 131090 ≤ _ by omega) (fun _ _ hM => (Th.part (Th.fst (Th.fst hM)) 1 2)) (At.cast (At.trans (At.of_take (At.of_take (At.self _))) (At.sub _ 1 2)) (by decide))) ?_
  rintro _ w2 ⟨st, g, cap, sp, HS0⟩
  have HS := VSt.re HS0 (m2 := m + 196635) (by show m + 65545 + 131090 = m + 196635; omega)
  have H2 := HS.H.here
  refine ops_nil ?_
  refine nR33 ?_
  refine run_seq ?_
  refine run_mixZ 8 [(true, 0), (true, 1), (true, 2), (true, 3), (true, 4), (true, 5), (true, 6), (false, 7), (false, 8)] H2 [0, 1, 2] mixed (by decide) (by kernel_rfl) ?_
  rintro w3 hw3
  have H3 := Hp.drew H2; rw [← hw3] at H3
  refine mixz_p rfl ?_
  refine mix1_val (fun wz hz => ex_move rfl) ?_
  refine mixz_p rfl ?_
  refine mix1_val (fun wz hz => ex_move rfl) ?_
  refine mixz_p rfl ?_
  refine mix1_val (fun wz hz => ex_nilCheck rfl) ?_
  refine nZ33 ?_
  refine mixz_p rfl ?_
  refine mix1_val (fun wz hz => ex_fieldAddr fl94_2 rfl) ?_
  refine mixz_p rfl ?_
  refine mix1_val (fun wz hz => ex_move rfl) ?_
  refine mixz_p rfl ?_
  refine mix1_val (fun wz hz => ex_nilCheck rfl) ?_
  refine nZ33 ?_
  refine mixz_p rfl ?_
  refine mix1_val (fun wz hz => ex_fieldAddr fl94_3 rfl) ?_
  refine mixz_o rfl ?_
  refine ops_buildSlice Tryz.underlying130 ty82 H3 rfl (by decide) rfl ?_
  intro w4 g4 H4 hg4
  refine ops_nil ?_
  refine ⟨fun hne => H4.pick [0, 1, 2] (by decide), ?_⟩
  refine nZ33 ?_
  refine mixz_o rfl ?_
  refine ops_call (ex_call gf45 rfl) (HS.grp (p := 3) vnums_W H4 (by decide) (show m + 196635 + 131090 ≤ _ by omega) (fun _ _ hM => (Th.part (Th.fst (Th.fst hM)) 3 2)) (At.cast (At.trans (At.of_take (At.of_take (At.self _))) (At.sub _ 3 2)) (by decide))) ?_
  rintro _ w5 ⟨st, g, cap, sp, HS0⟩
  have HS := VSt.re HS0 (m2 := m + 327725) (by show m + 196635 + 131090 = m + 327725; omega)
  have H5 := HS.H.here
  refine ops_nil ?_
  refine ⟨fun hne => absurd rfl hne, ?_⟩
  refine nZ33 ?_
  refine mixz_nil ?_
  refine nR33 ?_
  refine run_seq ?_
  refine run_region ?_
  refine ops_val (ex_move rfl) ?_
  refine ops_val (ex_move rfl) ?_
  refine ops_val (ex_nilCheck rfl) ?_
  refine nO33 ?_
  refine ops_val (ex_fieldAddr fl94_4 rfl) ?_
  refine ops_call (ex_call gf103 rfl) (HS.one (p := 5) vlholder_W (show m + 327725 + 393261 ≤ _ by omega) (fun _ _ hM => (Th.snd (Th.fst hM))) (At.cast (At.of_take (At.drop _ _)) (by decide))) ?_
  rintro _ w6 ⟨st, g, cap, sp, HS0⟩
  have HS := VSt.re HS0 (m2 := m + 720986) (by show m + 327725 + 393261 = m + 720986; omega)
  have H6 := HS.H.here
  refine ops_nil ?_
  refine nR33 ?_
  refine run_region ?_
  refine ops_val (ex_move rfl) ?_
  refine ops_val (ex_move rfl) ?_
  refine ops_val (ex_nilCheck rfl) ?_
  refine nO33 ?_
  refine ops_val (ex_fieldAddr fl94_5 rfl) ?_
  refine ops_call (ex_call gf104 rfl) (HS.one (p := 6) vlock_W (show m + 720986 + 262180 ≤ _ by omega) (fun _ _ hM => (Th.part (Th.snd hM) 0 4)) (At.cast (At.trans (At.drop _ _) (At.sub _ 0 4)) (by decide))) ?_
  rintro _ w7 ⟨st, g, cap, sp, HS0⟩
  have HS := VSt.re HS0 (m2 := m + 983166) (by show m + 720986 + 262180 = m + 983166; omega)
  have H7 := HS.H.here
  refine ops_nil ?_
  refine nR33 ?_
  refine run_nil ?_
  refine fin_end0 rfl ?_
  have hw0 : List.take 5 x.1.1 = x.1.1 := Th.whole (Th.fst (Th.fst hM))
  have hw2 : List.take 4 x.2 = x.2 := Th.whole (Th.snd hM)
  refine HS.out2 ?_ rfl
  show _ = wAll (x.1.1 ++ (Th.many thholder false).fl x.1.2 ++ x.2) a
  simp only [List.drop_zero, wAll_part, wAll_append, Nat.reduceAdd, hw0, hw2]
theorem vaccount_W : WalkW Tryz.prog 81 thaccount := vaccount_w
set_option maxRecDepth 100000 in
set_option maxHeartbeats 4000000 in
theorem vaccount_r (gp gr : Nat) (gb : Option Nat) (cb : Nat) (sb : List Value) (b : List UInt8) (hcb : b.length ≤ cb) (hbl : b.length ≤ 65536) (go o i e : Nat) (U : TypeId) (cs : List Value) (w0 : World) (H0 : Hp w0 w0 (bl (vr gp gr gb cb sb b i e ++ [(some go, U, cs)])) (vr gp gr gb cb sb b i e ++ [(some go, U, cs)])) (hi : i ≤ b.length) (hat : At cs o thaccount.zs) (hfit : o + thaccount.sz ≤ cs.length) :
    Does Tryz.prog 81 #[.pointer (some ⟨gp, 0, none⟩), .pointer (some ⟨go, o, none⟩)] w0 (fun _ w' => RdOut (vr gp gr gb cb sb b) thaccount go o U cs b i e w0.heap.size w0 (bl (vr gp gr gb cb sb b i e ++ [(some go, U, cs)])) w') := by
  refine does_of Tryz.func81 Tryz.ntmps81 rfl ?_
  refine nR33 ?_
  change o + 10 ≤ cs.length at hfit
  have HS := RSt.start (R := vr gp gr gb cb sb b) (o := o) H0 hi
  have H := HS.H.here
  refine run_seq ?_
  refine run_region ?_
  refine ops_val (ex_move rfl) ?_
  refine ops_val (ex_move rfl) ?_
  refine ops_val (ex_nilCheck rfl) ?_
  refine nO33 ?_
  refine ops_val (ex_fieldAddr fl94_0 rfl) ?_
  refine ops_call (ex_call gf47 rfl) (HS.one (q := 0) (vtext_R gp gr gb cb sb b hcb hbl) (by decide) (show o + 0 + 1 ≤ _ by omega) (At.cast (hat.trans (At.sub _ 0 1)) rfl)) ?_
  rintro _ w1 ⟨us, i1, e1, HS⟩
  replace HS := HS.join1
  have H1 := HS.H.here
  refine ops_nil ?_
  refine nR33 ?_
  refine run_seq ?_
  refine run_region ?_
  refine ops_val (ex_move rfl) ?_
  refine ops_val (ex_move rfl) ?_
  refine ops_val (ex_nilCheck rfl) ?_
  refine nO33 ?_
  refine ops_val (ex_fieldAddr fl94_1 rfl) ?_
  refine ops_call (ex_call gf102 rfl) (HS.one (q := 1) (vspan_R gp gr gb cb sb b hcb hbl) (by decide) (show o + 1 + 2 ≤ _ by omega) (At.cast (hat.trans (At.sub _ 1 2)) rfl)) ?_
  rintro _ w2 ⟨us, i1, e1, HS⟩
  replace HS := HS.join1
  have H2 := HS.H.here
  refine ops_nil ?_
  refine nR33 ?_
  refine run_seq ?_
  refine run_mixZ 8 [(true, 0), (true, 1), (true, 2), (true, 3), (true, 4), (true, 5), (true, 6), (false, 7), (false, 8)] H2 [0, 1, 2, 3] mixed (by decide) (by kernel_rfl) ?_
  rintro w3 hw3
  have H3 := Hp.drew H2; rw [← hw3] at H3
  refine mixz_p rfl ?_
  refine mix1_val (fun wz hz => ex_move rfl) ?_
  refine mixz_p rfl ?_
  refine mix1_val (fun wz hz => ex_move rfl) ?_
  refine mixz_p rfl ?_
  refine mix1_val (fun wz hz => ex_nilCheck rfl) ?_
  refine nZ33 ?_
  refine mixz_p rfl ?_
  refine mix1_val (fun wz hz => ex_fieldAddr fl94_2 rfl) ?_
  refine mixz_p rfl ?_
  refine mix1_val (fun wz hz => ex_move rfl) ?_
  refine mixz_p rfl ?_
  refine mix1_val (fun wz hz => ex_nilCheck rfl) ?_
  refine nZ33 ?_
  refine mixz_p rfl ?_
  refine mix1_val (fun wz hz => ex_fieldAddr fl94_3 rfl) ?_
  refine mixz_o rfl ?_
  refine ops_buildSlice Tryz.underlying130 ty82 H3 rfl (by decide) rfl ?_
  intro w4 g4 H4 hg4
  refine ops_nil ?_
  refine ⟨fun hne => H4.pick [0, 1, 2, 3] (by decide), ?_⟩
  refine nZ33 ?_
  refine mixz_o rfl ?_
  refine ops_call (ex_call gf45 rfl) (HS.grp (q := 3) (vnums_R gp gr gb cb sb b hcb hbl) (by decide) H4 (by decide) (show o + 3 + 2 ≤ _ by omega) (At.cast (hat.trans (At.sub _ 3 2)) rfl) rfl rfl) ?_
  rintro _ w5 ⟨us, i1, e1, HS⟩
  replace HS := HS.join1
  have H5 := HS.H.here
  refine ops_nil ?_
  refine ⟨fun hne => absurd rfl hne, ?_⟩
  refine nZ33 ?_
  refine mixz_nil ?_
  refine nR33 ?_
  refine run_seq ?_
  refine run_region ?_
  refine ops_val (ex_move rfl) ?_
  refine ops_val (ex_move rfl) ?_
  refine ops_val (ex_nilCheck rfl) ?_
  refine nO33 ?_
  refine ops_val (ex_fieldAddr fl94_4 rfl) ?_
  refine ops_call (ex_call gf103 rfl) (HS.one (q := 5) (vlholder_R gp gr gb cb sb b hcb hbl) (by decide) (show o + 5 + 1 ≤ _ by omega) (At.cast (hat.trans (At.sub _ 5 1)) rfl)) ?_
  rintro _ w6 ⟨us, i1, e1, HS⟩
  have H6 := HS.H.here
  refine ops_nil ?_
  refine nR33 ?_
  refine run_region ?_
  refine ops_val (ex_move rfl) ?_
  refine ops_val (ex_move rfl) ?_
  refine ops_val (ex_nilCheck rfl) ?_
  refine nO33 ?_
  refine ops_val (ex_fieldAddr fl94_5 rfl) ?_
  refine ops_call (ex_call gf104 rfl) (HS.one (q := 6) (vlock_R gp gr gb cb sb b hcb hbl) (by decide) (show o + 6 + 4 ≤ _ by omega) (At.cast (hat.trans (At.sub _ 6 4)) rfl)) ?_
  rintro _ w7 ⟨us, i1, e1, HS⟩
  have H7 := HS.H.here
  refine ops_nil ?_
  refine nR33 ?_
  refine run_nil ?_
  refine fin_end0 rfl ?_
  exact HS.out
theorem vaccount_R : WalkR Tryz.prog 81 thaccount := vaccount_r
set_option maxRecDepth 100000 in
set_option maxHeartbeats 4000000 in
theorem vlaccount_w (gp go o : Nat) (g0 : Option Nat) (cap0 : Nat) (sp0 : List Value) (st : WS) (U : TypeId) (cs : List Value) (x : List thaccount.X) (vs : List Value) (w0 : World) (m : Nat) (a : WS) (H0 : Hp w0 w0 (bl (vwo gp g0 cap0 sp0 st go U cs)) (vwo gp g0 cap0 sp0 st go U cs)) (hm : m + (Th.many thaccount false).mx ≤ 1000000000) (hP : POk m g0 cap0 sp0 st) (ha : Alike a st) (hM : (Th.many thaccount false).M w0 (fun b => b ∉ bl (vwo gp g0 cap0 sp0 st go U cs)) x vs) (hat : At cs o vs) :
    Does Tryz.prog 49 #[.pointer (some ⟨gp, 0, none⟩), .pointer (some ⟨go, o, none⟩)] w0 (fun _ w' => VwOut (m + (Th.many thaccount false).mx) gp (wAll ((Th.many thaccount false).fl x) a) go U cs w0 (bl (vwo gp g0 cap0 sp0 st go U cs)) w') := by
  refine does_of Tryz.func49 Tryz.ntmps49 rfl ?_
  refine nR55 ?_
  have H := H0
  change m + 1114247 ≤ 1000000000 at hm
  obtain ⟨B, c, cells, rfl, hz, hrd, hap, ht, hel⟩ := hM
  have hcq : cs[o]? = some (.slice B x.length c) := by have := hat 0 _ rfl; rwa [Nat.add_zero] at this
  refine run_seq ?_
  refine run_region ?_
  refine ops_val (ex_move rfl) ?_
  refine ops_val (ex_nilCheck rfl) ?_
  refine ops_val (ex_load ty22 rfl (H.cell (i := 2) rfl hcq)) ?_
  refine ops_val (ex_assign rfl) ?_
  refine ops_nil ?_
  refine nR55 ?_
  refine run_seq ?_
  refine run_region ?_
  refine ops_val (ex_move rfl) ?_
  refine ops_val (ex_move rfl) ?_
  refine ops_val (ex_len_slice Tryz.underlying22 rfl) ?_
  have hA1 : Alike (wl thaccount x 0 a) (vFld (.count x.length) st) := alike_fld _ ha
  have hlg : (st.long = true ∨ 1024 < x.length) → (wl thaccount x 0 a).long = true := fun h => (alike_out hA1).1 (.inl (by
    have : vFld (.count x.length) st = ⟨st.out, true⟩ := vFld_count_long (h.imp id (fun h => by simp [tooLong]; omega))
    rw [this]))
  have hk := many_w gp g0 cap0 sp0 st x.length _ (Hp.less (es := vw gp g0 cap0 sp0 st) (R := [(some go, U, cs)]) H).here m (by omega) hP (by have := hz.1; omega)
  refine ops_call (ex_call gf79 rfl) hk ?_
  rintro _ w1 ⟨g, cap, sp, rfl, hP1, Hd⟩
  obtain ⟨nn, hnn⟩ : ∃ nn, (if st.long = true ∨ 1024 < x.length then 0 else x.length) = nn := ⟨_, rfl⟩
  rw [hnn]
  have hnx : nn ≤ x.length := by split at hnn <;> omega
  have H1 := Hp.front (R := [(some go, U, cs)]) H Hd
  refine nO55 ?_
  refine ops_val (ex_assign rfl) ?_
  refine ops_nil ?_
  refine nR55 ?_
  refine run_seq ?_
  refine run_seq ?_
  refine run_region ?_
  refine ops_val (ex_move rfl) ?_
  refine ops_val (ex_nilCheck rfl) ?_
  refine ops_val (ex_fieldAddr fl51_1 rfl) ?_
  refine ops_val (ex_load ty49 rfl (H1.cell (i := 0) rfl rfl)) ?_
  refine nO55 ?_
  refine ops_false (ex_neq_nil_ptr Tryz.underlying49 rfl) (by simp) ?_
  refine ops_nil ?_
  refine nR55 ?_
  refine run_cond_false rfl ?_
  refine run_skip ?_
  refine run_seq ?_
  refine run_region ?_
  refine ops_val (ex_assign rfl) ?_
  refine ops_nil ?_
  refine nR55 ?_
  refine run_block ?_
  refine run_loop (fun n l w => ∃ (q : Nat) (y : Int) (s1 : WS) (g : Option Nat) (cap : Nat) (sp : List Value), nn - q = n ∧ Fits [some (.pointer (some ⟨gp, 0, none⟩)), some (.pointer (some ⟨go, o, none⟩)), none, none, some (.slice B x.length c), some (.int .i64 (nn : Int)), some (.int .i64 y), none, none, none, none, none, none, none, none, none, none, none, none, none, none, none, none, none, none, none, none, none, none, none, none, none, none, none, none, none, none, none, none, none, none, none, none, none, none, none, none, none, none, none, none, none, none, none, none] l ∧ y = q ∧ q ≤ nn ∧ Alike (wl thaccount x q a) s1 ∧ POk (m + 1114247) g cap sp s1 ∧ Hp w0 w (bl (vwo gp g0 cap0 sp0 st go U cs)) (vwo gp g cap sp s1 go U cs)) (nn) ?_ ?_
  · exact ⟨0, _, _, g, cap, sp, rfl, (fs (fs (fn (fn (fs (fs (fs (fn (fn (fn (fn (fn (fn (fn (fn (fn (fn (fn (fn (fn (fn (fn (fn (fn (fn (fn (fn (fn (fn (fn (fn (fn (fn (fn (fn (fn (fn (fn (fn (fn (fn (fn (fn (fn (fn (fn (fn (fn (fn (fn (fn (fn (fn (fn (fn f0))))))))))))))))))))))))))))))))))))))))))))))))))))))), rfl, Nat.zero_le _, hA1, hP1.mono (by omega), H1⟩
  · rintro n l w2 ⟨q, y, s1, g, cap, sp, rfl, hfit, rfl, hq, hA, hP, H2⟩
    obtain ⟨j, rfl⟩ := hfit.open
    refine nR55 ?_
    clear hfit
    refine run_seq ?_
    refine run_seq ?_
    refine run_region ?_
    refine ops_val (ex_move rfl) ?_
    refine ops_val (ex_move rfl) ?_
    refine ops_test (ex_lss rfl rfl) (fun hp24 => ?_) (fun hp24 => ?_)
    · have hql : q < nn := by omega
      have hqx : q < x.length := by omega
      refine ops_val (ex_move rfl) ?_
      refine nO55 ?_
      refine ops_yes rfl ?_
      refine ops_val (ex_move rfl) ?_
      refine ops_yes rfl ?_
      have hk := more_w gp g cap sp s1 _ (Hp.less (es := vw gp g cap sp s1) (R := [(some go, U, cs)]) H2).here
      refine ops_call_val (ex_call gf80 rfl) hk ?_
      intro w3 Hd
      have H3 := Hp.front (R := [(some go, U, cs)]) H2 Hd
      refine ops_val (ex_pick_t rfl rfl) ?_
      refine ops_nil ?_
      refine nR55 ?_
      refine run_cond rfl (fun hb28 => ?_) (fun hb28 => ?_)
      · have hmo : ¬ (s1.long = true ∨ 65536 < s1.out.length) := by simpa using hb28
        refine run_skip ?_
        refine run_seq ?_
        refine run_block ?_
        refine run_seq ?_
        refine run_region ?_
        obtain ⟨pa, hpa⟩ := hrd.some_ (by omega)
        subst hpa
        have hpb := hap (by omega) pa rfl
        have hln : ((cells.drop (q * 10)).take 10).length = 10 := elem_len hrd hqx
        refine ops_alloc ty94 H3 ?_
        intro w4 gv H4 hgv
        refine ops_nil ?_
        refine nR55 ?_
        refine run_seq ?_
        refine run_seq ?_
        refine run_region ?_
        refine ops_val (ex_move rfl) ?_
        refine ops_val (ex_nilCheck rfl) ?_
        refine ops_val (ex_fieldAddr fl51_1 rfl) ?_
        refine ops_val (ex_load ty49 rfl (H4.cell (i := 0) rfl rfl)) ?_
        refine nO55 ?_
        refine ops_true (ex_eql_nil_ptr Tryz.underlying49 rfl) (rfl) ?_
        refine ops_nil ?_
        refine nR55 ?_
        refine run_cond_true rfl ?_
        refine run_region ?_
        refine ops_val (ex_move rfl) ?_
        refine ops_val (ex_move rfl) ?_
        refine ops_val (ex_idx Tryz.underlying22 ty94 rfl rfl rfl hqx rfl) ?_
        refine ops_val (ex_loadN ty94 rfl (vs := ((cells.drop (q * 10)).take 10)) hln ((elem_cl hrd hqx hpb).to H4).cell) ?_
        refine nO55 ?_
        refine ops_store ty94 H4 3 rfl rfl rfl rfl hln (by rw [hln]; decide) (thaccount.ones (hel q hqx)) ?_
        intro w5 H5
        have hpu : putAt [.string .empty, .int .i64 0, .int .i64 0, .int .i64 0, .int .i64 0, .slice none 0 0, .int .i64 0, .int .i64 0, .int .i64 0, .int .i64 0] 0 ((cells.drop (q * 10)).take 10) = ((cells.drop (q * 10)).take 10) := putAt_all hln
        rw [hpu] at H5
        refine ops_nil ?_
        refine nR55 ?_
        refine run_seq ?_
        refine run_region ?_
        refine ops_val (ex_move rfl) ?_
        have HX : Hp w0 w5 (bl (vwo gp g0 cap0 sp0 st go U cs)) (vwo gp g cap sp s1 gv 94 ((cells.drop (q * 10)).take 10) ++ [(some go, U, cs)]) := H5.pick [0, 1, 3, 2] (by decide)
        have hMq := thaccount.to (hel q hqx) HX.less (fun _ h => h)
        refine ops_call (ex_call gf81 rfl) (vaccount_W gp gv 0 g cap sp s1 94 _ x[q] _ _ 65536 (wl thaccount x q a) HX.less.here (by decide) ⟨hP.1, hP.2, hP.3, by omega⟩ hA (thaccount.mono hMq fun _ h => h.2) (At.self _)) ?_
        rintro _ w6 ⟨s2, g, cap, sp, hA2, hP2, Hd⟩
        have H6 := (HX.front Hd).pick [0, 1, 3] (by decide)
        refine ops_nil ?_
        refine nR55 ?_
        refine run_seq ?_
        refine run_region ?_
        refine ops_val (ex_move rfl) ?_
        refine ops_val (ex_nilCheck rfl) ?_
        refine ops_val (ex_fieldAddr fl51_1 rfl) ?_
        refine ops_val (ex_load ty49 rfl (H6.cell (i := 0) rfl rfl)) ?_
        refine nO55 ?_
        refine ops_false (ex_neq_nil_ptr Tryz.underlying49 rfl) (by simp) ?_
        refine ops_nil ?_
        refine nR55 ?_
        refine run_cond_false rfl ?_
        refine run_skip ?_
        refine run_nil (blk_normal ?_)
        refine run_region ?_
        refine ops_val (ex_move rfl) ?_
        refine ops_val (ex_add rfl rfl (IntWalk.i64_in _ (by omega))) ?_
        refine ops_val (ex_assign rfl) ?_
        refine ops_nil ?_
        refine nR55 ?_
        refine run_nil (rnd_normal ?_)
        exact ⟨nn - (q + 1), by omega, q + 1, _, s2, g, cap, sp, rfl, (fs (fs (fn (fn (fs (fs (fs (fn (fn (fn (fn (fn (fn (fn (fn (fn (fn (fn (fn (fn (fn (fn (fn (fn (fn (fn (fn (fn (fn (fn (fn (fn (fn (fn (fn (fn (fn (fn (fn (fn (fn (fn (fn (fn (fn (fn (fn (fn (fn (fn (fn (fn (fn (fn (fn f0))))))))))))))))))))))))))))))))))))))))))))))))))))))), rfl, by omega, by rw [wl_succ hqx]; exact hA2, hP2.mono (show 65536 + 983166 ≤ m + 1114247 by omega), H6⟩
      · have hmo : s1.long = true ∨ 65536 < s1.out.length := by
          have h := of_decide_eq_false hb28
          exact Classical.not_not.1 h
        refine run_exit ?_
        refine rnd_exit ?_
        refine blk_exit ?_
        refine run_nil ?_
        refine fin_end0 rfl ?_
        have e : wAll ((Th.many thaccount false).fl x) a = wl thaccount x q a := wl_stop false ((alike_out hA).1 hmo)
        rw [e]
        exact ⟨s1, g, cap, sp, hA, hP, H3⟩
    · have hqm : q = nn := by omega
      subst hqm
      refine ops_val (ex_move rfl) ?_
      refine nO55 ?_
      refine ops_no rfl ?_
      refine ops_no rfl ?_
      refine ops_val (ex_pick_f rfl rfl) ?_
      refine ops_nil ?_
      refine nR55 ?_
      refine run_cond_false rfl ?_
      refine run_exit ?_
      refine rnd_exit ?_
      refine blk_exit ?_
      refine run_nil ?_
      refine fin_end0 rfl ?_
      have e : wAll ((Th.many thaccount false).fl x) a = wl thaccount x q a := by
        by_cases hc : st.long = true ∨ 1024 < x.length
        · rw [if_pos hc] at hnn
          subst hnn
          exact wl_stop false (hlg hc)
        · rw [if_neg hc] at hnn
          subst hnn
          exact (wl_all thaccount false x a).symm
      rw [e]
      exact ⟨s1, g, cap, sp, hA, hP, H2⟩
theorem vlaccount_W : WalkW Tryz.prog 49 (Th.many thaccount false) := vlaccount_w
set_option maxRecDepth 100000 in
set_option maxHeartbeats 4000000 in
theorem vlaccount_r (gp gr : Nat) (gb : Option Nat) (cb : Nat) (sb : List Value) (b : List UInt8) (hcb : b.length ≤ cb) (hbl : b.length ≤ 65536) (go o i e : Nat) (U : TypeId) (cs : List Value) (w0 : World) (H0 : Hp w0 w0 (bl (vr gp gr gb cb sb b i e ++ [(some go, U, cs)])) (vr gp gr gb cb sb b i e ++ [(some go, U, cs)])) (hi : i ≤ b.length) (hat : At cs o (Th.many thaccount false).zs) (hfit : o + (Th.many thaccount false).sz ≤ cs.length) :
    Does Tryz.prog 49 #[.pointer (some ⟨gp, 0, none⟩), .pointer (some ⟨go, o, none⟩)] w0 (fun _ w' => RdOut (vr gp gr gb cb sb b) (Th.many thaccount false) go o U cs b i e w0.heap.size w0 (bl (vr gp gr gb cb sb b i e ++ [(some go, U, cs)])) w') := by
  refine does_of Tryz.func49 Tryz.ntmps49 rfl ?_
  refine nR55 ?_
  have H := H0
  change o + 1 ≤ cs.length at hfit
  have hcq : cs[o]? = some (Value.slice none 0 0) := by have := hat 0 _ rfl; rwa [Nat.add_zero] at this
  have hrow : putAt cs o [Value.slice none 0 0] = cs := putAt_same hat (by simpa using hfit)
  refine run_seq ?_
  refine run_region ?_
  refine ops_val (ex_move rfl) ?_
  refine ops_val (ex_nilCheck rfl) ?_
  refine ops_val (ex_load ty22 rfl (H.cell (i := 3) rfl hcq)) ?_
  refine ops_val (ex_assign rfl) ?_
  refine ops_nil ?_
  refine nR55 ?_
  refine run_seq ?_
  refine run_region ?_
  refine ops_val (ex_move rfl) ?_
  refine ops_val (ex_move rfl) ?_
  refine ops_val (ex_len_slice Tryz.underlying22 rfl) ?_
  obtain ⟨⟨nn, ic, ec⟩, hcn⟩ : ∃ s, countStep b 1024 i e = s := ⟨_, rfl⟩
  have hcb2 := countStep_le (b := b) (most := 1024) (i := i) (e := e) hi
  have hic := hcb2.1
  have hn3 := hcb2.2.2.1
  rw [hcn] at hic hn3
  simp only at hic hn3
  have hnn : nn ≤ 1024 := by have : ((nn : Nat) : Int) ≤ max 1024 0 := hn3; omega
  have hmr : (Th.many thaccount false).rd b i e = rdN thaccount b nn ic ec := by
    show rdN thaccount b (countStep b 1024 i e).1 (countStep b 1024 i e).2.1 (countStep b 1024 i e).2.2 = _
    rw [hcn]
  have hk := many_r gp gr gb cb sb b i e _ (Hp.less (es := vr gp gr gb cb sb b i e) (R := [(some go, U, cs)]) H).here hcb hbl hi
  rw [hcn] at hk
  refine ops_call_val (ex_call gf79 rfl) hk ?_
  intro w1 Hd
  have HN0 := Hp.front (R := [(some go, U, cs)]) H Hd
  have H1 := HN0
  refine nO55 ?_
  refine ops_val (ex_assign rfl) ?_
  refine ops_nil ?_
  refine nR55 ?_
  refine run_seq ?_
  refine run_seq ?_
  refine run_region ?_
  refine ops_val (ex_move rfl) ?_
  refine ops_val (ex_nilCheck rfl) ?_
  refine ops_val (ex_fieldAddr fl51_1 rfl) ?_
  refine ops_val (ex_load ty49 rfl (H1.cell (i := 0) rfl rfl)) ?_
  refine nO55 ?_
  refine ops_true (ex_neq_nil_ptr Tryz.underlying49 rfl) (by simp) ?_
  refine ops_nil ?_
  refine nR55 ?_
  refine run_cond_true rfl ?_
  refine run_region ?_
  refine ops_val (ex_move rfl) ?_
  refine ops_val (ex_nilCheck rfl) ?_
  have hset : cs.set o (Value.slice none 0 0) = putAt cs o [Value.slice none 0 0] := (putAt_one (by omega)).symm
  refine ops_store1 ty22 H1 3 rfl rfl rfl rfl (by omega) rfl ?_
  intro w2 HN0
  have H2 : Hp w0 w2 (bl (vr gp gr gb cb sb b i e ++ [(some go, U, cs)])) (vr gp gr gb cb sb b ic ec ++ [(some go, U, putAt cs o [Value.slice none 0 0])]) := by rw [← hset]; exact HN0
  refine ops_nil ?_
  refine nR55 ?_
  refine run_seq ?_
  refine run_region ?_
  refine ops_val (ex_assign rfl) ?_
  refine ops_nil ?_
  refine nR55 ?_
  refine run_block ?_
  refine run_loop (fun n l w => ∃ (q : Nat) (y : Int) (i1 e1 : Nat) (xs : List thaccount.X) (uc spl : List Value) (gl : Option Nat) (capl : Nat), nn - q = n ∧ Fits [some (.pointer (some ⟨gp, 0, none⟩)), some (.pointer (some ⟨go, o, none⟩)), none, none, none, some (.int .i64 (nn : Int)), some (.int .i64 y), none, none, none, none, none, none, none, none, none, none, none, none, none, none, none, none, none, none, none, none, none, none, none, none, none, none, none, none, none, none, none, none, none, none, none, none, none, none, none, none, none, none, none, none, none, none, none, none] l ∧ y = q ∧ q ≤ nn ∧ xs.length = q ∧ rdN thaccount b nn ic ec = (xs ++ (rdN thaccount b (nn - q) i1 e1).1, (rdN thaccount b (nn - q) i1 e1).2) ∧ i1 ≤ b.length ∧ uc.length = q * 10 ∧ uc.all (·.oneCell') = true ∧ q ≤ capl ∧ capl * 10 ≤ (uc ++ spl).length ∧ (gl = none → capl = 0) ∧ Hp w0 w (bl (vr gp gr gb cb sb b i e ++ [(some go, U, cs)])) ((vr gp gr gb cb sb b i1 e1 ++ [(some go, U, putAt cs o [Value.slice (hd gl) q capl])]) ++ [(gl, 94, uc ++ spl)]) ∧ (e1 = 0 → ∀ j (hj : j < xs.length), thaccount.M w (Fr w w0.heap.size ((vr gp gr gb cb sb b i1 e1 ++ [(some go, U, putAt cs o [Value.slice (hd gl) q capl])]) ++ [(gl, 94, uc ++ spl)])) xs[j] ((uc.drop (j * 10)).take 10))) (nn) ?_ ?_
  · exact ⟨0, _, ic, ec, [], [], [], none, 0, rfl, (fs (fs (fn (fn (fn (fs (fs (fn (fn (fn (fn (fn (fn (fn (fn (fn (fn (fn (fn (fn (fn (fn (fn (fn (fn (fn (fn (fn (fn (fn (fn (fn (fn (fn (fn (fn (fn (fn (fn (fn (fn (fn (fn (fn (fn (fn (fn (fn (fn (fn (fn (fn (fn (fn (fn f0))))))))))))))))))))))))))))))))))))))))))))))))))))))), rfl, Nat.zero_le _, rfl, rfl, hic, rfl, rfl, Nat.le_refl _, Nat.zero_le _, fun _ => rfl, (H2.nil 94), fun _ j hj => by cases hj⟩
  · rintro n l w3 ⟨q, y, i1, e1, xs, uc, spl, gl, capl, rfl, hfit, rfl, hq, hxs, hrd, hi1, hul, huo, hqc, hcl, hgl, H3, hel⟩
    obtain ⟨j, rfl⟩ := hfit.open
    refine nR55 ?_
    clear hfit
    refine run_seq ?_
    refine run_seq ?_
    refine run_region ?_
    refine ops_val (ex_move rfl) ?_
    refine ops_val (ex_move rfl) ?_
    refine ops_test (ex_lss rfl rfl) (fun hp24 => ?_) (fun hp24 => ?_)
    · have hql : q < nn := by omega
      refine ops_val (ex_move rfl) ?_
      refine nO55 ?_
      refine ops_yes rfl ?_
      refine ops_val (ex_move rfl) ?_
      refine ops_yes rfl ?_
      have HZ : Hp w0 w3 (bl (vr gp gr gb cb sb b i e ++ [(some go, U, cs)])) (vr gp gr gb cb sb b i1 e1 ++ [(some go, U, putAt cs o [Value.slice (hd gl) q capl]), (gl, 94, uc ++ spl)]) := H3
      have hk := more_r gp gr gb cb sb b i1 e1 _ (Hp.less (es := vr gp gr gb cb sb b i1 e1) HZ).here
      refine ops_call_val (ex_call gf80 rfl) hk ?_
      intro w4 Hd
      replace hel := fun h0 j hj => Fr.to (hel h0 j hj) (Hp.front (R := [(some go, U, putAt cs o [Value.slice (hd gl) q capl]), (gl, 94, uc ++ spl)]) HZ.here Hd)
      have H4 := Hp.front HZ Hd
      refine ops_val (ex_pick_t rfl rfl) ?_
      refine ops_nil ?_
      refine nR55 ?_
      refine run_cond rfl (fun hb28 => ?_) (fun hb28 => ?_)
      · have he1 : e1 = 0 := by simpa using hb28
        refine run_skip ?_
        refine run_seq ?_
        refine run_block ?_
        refine run_seq ?_
        refine run_region ?_
        have HB := H4
        replace H4 := HB.here
        refine ops_alloc ty94 H4 ?_
        intro w5 gx H5 hgx
        refine ops_nil ?_
        refine nR55 ?_
        refine run_seq ?_
        refine run_seq ?_
        refine run_region ?_
        refine ops_val (ex_move rfl) ?_
        refine ops_val (ex_nilCheck rfl) ?_
        refine ops_val (ex_fieldAddr fl51_1 rfl) ?_
        refine ops_val (ex_load ty49 rfl (H5.cell (i := 0) rfl rfl)) ?_
        refine nO55 ?_
        refine ops_false (ex_eql_nil_ptr Tryz.underlying49 rfl) (by simp) ?_
        refine ops_nil ?_
        refine nR55 ?_
        refine run_cond_false rfl ?_
        refine run_skip ?_
        refine run_seq ?_
        refine run_region ?_
        refine ops_val (ex_move rfl) ?_
        have HX : Hp _ w5 _ ((vr gp gr gb cb sb b i1 e1 ++ [(some gx, 94, [.string .empty, .int .i64 0, .int .i64 0, .int .i64 0, .int .i64 0, .slice none 0 0, .int .i64 0, .int .i64 0, .int .i64 0, .int .i64 0])]) ++ [(some go, U, putAt cs o [Value.slice (hd gl) q capl]), (gl, 94, uc ++ spl)]) := H5.pick [0, 1, 2, 5, 3, 4] (by decide)
        obtain ⟨⟨xv, i2, e2⟩, hx⟩ : ∃ s, thaccount.rd b i1 e1 = s := ⟨_, rfl⟩
        have hi2 : i2 ≤ b.length := by have := thaccount.le (b := b) (e := e1) hi1; rw [hx] at this; exact this
        refine ops_call (ex_call gf81 rfl) (vaccount_R gp gr gb cb sb b hcb hbl gx 0 i1 e1 94 _ _ HX.less.here hi1 (At.self _) (Nat.le_refl _)) ?_
        rintro _ w6 ⟨us, hus, huno, Hd, hMx⟩
        rw [hx] at Hd hMx
        simp only at Hd hMx
        have hpu : putAt [.string .empty, .int .i64 0, .int .i64 0, .int .i64 0, .int .i64 0, .slice none 0 0, .int .i64 0, .int .i64 0, .int .i64 0, .int .i64 0] 0 us = us := putAt_all hus
        rw [hpu] at Hd hMx
        have hnsz := Nat.le_trans HB.size HX.size
        have HC := HX.front Hd
        replace hMx := fun h0 => thaccount.mono (ok' := Fr w6 w0.heap.size ((vr gp gr gb cb sb b i2 e2 ++ [(some gx, 94, us)]) ++ [(some go, U, putAt cs o [Value.slice (hd gl) q capl]), (gl, 94, uc ++ spl)])) (hMx h0) (fun p hp => ⟨by have := hp.1; omega, fun hq => by
          rw [bl_append] at hq
          rcases List.mem_append.1 hq with hq | hq
          · exact hp.2.1 hq
          · have h1 := bl_lt HX (b := p) (by rw [bl_append]; exact List.mem_append_right _ hq)
            have := hp.1
            omega, hp.2.2⟩)
        replace hel := fun h0 j hj => Fr.to (hel h0 j hj) HC
        have H6 := HC.here
        refine ops_nil ?_
        refine nR55 ?_
        refine run_seq ?_
        refine run_region ?_
        refine ops_val (ex_move rfl) ?_
        refine ops_val (ex_nilCheck rfl) ?_
        refine ops_val (ex_fieldAddr fl51_1 rfl) ?_
        refine ops_val (ex_load ty49 rfl (H6.cell (i := 0) rfl rfl)) ?_
        refine nO55 ?_
        refine ops_true (ex_neq_nil_ptr Tryz.underlying49 rfl) (by simp) ?_
        refine ops_nil ?_
        refine nR55 ?_
        refine run_cond_true rfl ?_
        refine run_mixZ 8 [(true, 0), (true, 1), (true, 2), (true, 3), (true, 4), (false, 5), (false, 6), (true, 7), (false, 8)] H6 [0, 1, 2, 3, 4] mixed (by decide) (by kernel_rfl) ?_
        rintro w7 hw7
        have H7 := Hp.drew H6; rw [← hw7] at H7
        refine mixz_p rfl ?_
        refine mix1_val (fun wz hz => ex_move rfl) ?_
        refine mixz_p rfl ?_
        refine mix1_val (fun wz hz => ex_move rfl) ?_
        refine mixz_p rfl ?_
        refine mix1_val (fun wz hz => ex_nilCheck rfl) ?_
        refine mixz_p rfl ?_
        refine mix1_val (fun wz hz => ex_load ty22 rfl (hz.cell (i := 4) rfl (show (putAt cs o [Value.slice (hd gl) q capl])[o]? = some (Value.slice (hd gl) q capl) from by rw [putAt_get (by simpa using hfit), if_neg (by omega), if_pos (by simp)]; simp))) ?_
        refine nZ55 ?_
        refine mixz_p rfl ?_
        refine mix1_val (fun wz hz => ex_loadN ty94 rfl (vs := us) hus (hz.cells (i := 3) rfl)) ?_
        refine mixz_o rfl ?_
        refine ops_build1 Tryz.underlying22 ty94 H7 rfl rfl hus (by decide) ?_
        intro w8 gn H8 hgn
        refine ops_nil ?_
        refine ⟨fun hne => H8.pick [0, 1, 2, 3, 4] (by decide), ?_⟩
        refine nZ55 ?_
        refine mixz_o rfl ?_
        refine ops_append Tryz.underlying22 ty94 (by decide) H8 5 (g := gl) (xs := uc) (sp := spl) rfl rfl hul hcl hqc hgl rfl (H8.rd (i := 6) (o := some gn) (xs := us) (sp := []) (by rw [List.append_nil]; rfl) (by rw [hus, Nat.one_mul]; rfl) (by decide)) huno (by omega) (by omega) (by decide) ?_
        intro w9 gl2 capl2 spl2 H9 hcl2 hqc2 hgl2
        refine ops_nil ?_
        refine ⟨fun hne => H9.pick [0, 1, 2, 3, 4] (by decide), ?_⟩
        refine nZ55 ?_
        refine mixz_p rfl ?_
        refine mix1_val (fun wz hz => ex_nilCheck rfl) ?_
        refine mixz_o rfl ?_
        refine ops_store1 ty22 H9 4 rfl rfl rfl rfl (by rw [putAt_len (by simpa using hfit)]; omega) rfl ?_
        intro w10 HS0
        have hset2 : (putAt cs o [Value.slice (hd gl) q capl]).set o (Value.slice (hd gl2) (q + 1) capl2) = putAt cs o [Value.slice (hd gl2) (q + 1) capl2] := by
          apply List.ext_getElem?
          intro j
          rw [List.getElem?_set, putAt_len (by simpa using hfit), putAt_get (by simpa using hfit), putAt_get (by simpa using hfit)]
          by_cases hj : o = j
          · subst hj; rw [if_pos rfl, if_pos (by omega), if_neg (by omega), if_pos (by simp)]; simp
          · rw [if_neg hj]
            split
            · rfl
            · rw [if_neg (by simp; omega), if_neg (by simp; omega)]
        have H10 := HS0
        refine ops_nil ?_
        refine ⟨fun hne => absurd rfl hne, ?_⟩
        refine nZ55 ?_
        refine mixz_nil ?_
        refine nR55 ?_
        refine run_nil (blk_normal ?_)
        refine run_region ?_
        refine ops_val (ex_move rfl) ?_
        refine ops_val (ex_add rfl rfl (IntWalk.i64_in _ (by omega))) ?_
        refine ops_val (ex_assign rfl) ?_
        refine ops_nil ?_
        refine nR55 ?_
        refine run_nil (rnd_normal ?_)
        have h1 := H10.pick [0, 1, 2, 4, 5] (by decide)
        rw [hset2] at h1
        have HR := (show ∀ (wa wb : World) (SS : List Nat), Hp wa wb SS ((vr gp gr gb cb sb b i2 e2 ++ [(some go, U, putAt cs o [Value.slice (hd gl2) (q + 1) capl2])]) ++ [(gl2, 94, (uc ++ us) ++ spl2)]) → Hp wa wb SS ((vr gp gr gb cb sb b i2 e2 ++ [(some go, U, putAt cs o [Value.slice (hd gl2) (q + 1) capl2])]) ++ [(gl2, 94, (uc ++ us) ++ spl2)]) from fun _ _ _ h => h) _ _ _ h1
        refine ⟨nn - (q + 1), by omega, q + 1, _, i2, e2, xs ++ [xv], uc ++ us, spl2, gl2, capl2, rfl, (fs (fs (fn (fn (fn (fs (fs (fn (fn (fn (fn (fn (fn (fn (fn (fn (fn (fn (fn (fn (fn (fn (fn (fn (fn (fn (fn (fn (fn (fn (fn (fn (fn (fn (fn (fn (fn (fn (fn (fn (fn (fn (fn (fn (fn (fn (fn (fn (fn (fn (fn (fn (fn (fn (fn f0))))))))))))))))))))))))))))))))))))))))))))))))))))))), rfl, by omega, by simp [hxs], ?_, hi2, by rw [List.length_append, hul, hus]; show q * 10 + 10 = (q + 1) * 10; omega, by rw [List.all_append, huo, huno]; rfl, hqc2, hcl2, hgl2, (HB.all HC).all HR, ?_⟩
        · rw [hrd, rdN_step hql he1 hx, List.append_assoc]; rfl
        · intro h0 j hj
          simp only [List.length_append, List.length_cons, List.length_nil] at hj
          by_cases hjq : j < xs.length
          · rw [List.getElem_append_left hjq]
            have hd1 : ((uc ++ us).drop (j * 10)).take 10 = (uc.drop (j * 10)).take 10 := by
              have h1 : (j + 1) * 10 ≤ q * 10 := Nat.mul_le_mul_right _ (by omega)
              rw [List.drop_append_of_le_length (by omega), List.take_append_of_le_length (by rw [List.length_drop]; omega)]
            rw [hd1]
            exact Fr.to (hel he1 j hjq) HR
          · have hjj : j = xs.length := by omega
            subst hjj
            rw [List.getElem_append_right (Nat.le_refl _)]
            have hd2 : ((uc ++ us).drop (xs.length * 10)).take 10 = us := by
              rw [hxs, ← hul, List.drop_left]
              exact List.take_of_length_le (Nat.le_of_eq hus)
            simp only [Nat.sub_self, List.getElem_cons_zero]
            rw [hd2]
            exact Fr.to (hMx h0) HR
      · have he1 : e1 ≠ 0 := by simpa using hb28
        refine run_exit ?_
        refine rnd_exit ?_
        refine blk_exit ?_
        refine run_nil ?_
        refine fin_end0 rfl ?_
        have hrw : (Th.many thaccount false).rd b i e = (xs, i1, e1) := by rw [hmr, hrd]; first | (rw [rdN_bad _ _ _ he1]; simp) | (simp [rdN])
        unfold RdOut
        rw [hrw]
        have HF : Hp w0 w4 _ ((vr gp gr gb cb sb b i1 e1 ++ [(some go, U, putAt cs o [Value.slice (hd gl) q capl])]) ++ [(gl, 94, uc ++ spl)]) := H4
        refine ⟨[Value.slice (hd gl) q capl], rfl, rfl, HF.less, fun h0 => ⟨hd gl, capl, uc, by rw [hxs], ⟨by rw [hxs]; omega, fun _ => by decide⟩, by rw [hxs]; exact HF.rd (i := 4) (o := gl) (xs := uc) (sp := spl) rfl hul (by decide), fun _ p hp => ⟨place_new HF rfl (i := 0) rfl p hp, row_apart HF (i := 0) rfl p hp, HF.tw (i := 4) rfl p hp⟩, fun _ _ p hp => HF.tw (i := 4) rfl p hp, fun j hj => thaccount.mono (hel h0 j hj) (fun p hp => ⟨hp.1, fun hq => hp.2.1 (show p ∈ bl ((vr gp gr gb cb sb b i1 e1 ++ [(some go, U, putAt cs o [Value.slice (hd gl) q capl])]) ++ [(gl, 94, uc ++ spl)]) from bl_left hq), hp.2.2⟩)⟩⟩
    · have hqm : q = nn := by omega
      subst hqm
      refine ops_val (ex_move rfl) ?_
      refine nO55 ?_
      refine ops_no rfl ?_
      refine ops_no rfl ?_
      refine ops_val (ex_pick_f rfl rfl) ?_
      refine ops_nil ?_
      refine nR55 ?_
      refine run_cond_false rfl ?_
      refine run_exit ?_
      refine rnd_exit ?_
      refine blk_exit ?_
      refine run_nil ?_
      refine fin_end0 rfl ?_
      have hrw : (Th.many thaccount false).rd b i e = (xs, i1, e1) := by rw [hmr, hrd]; first | (rw [rdN_bad _ _ _ he1]; simp) | (simp [rdN])
      unfold RdOut
      rw [hrw]
      have HF : Hp w0 w3 _ ((vr gp gr gb cb sb b i1 e1 ++ [(some go, U, putAt cs o [Value.slice (hd gl) q capl])]) ++ [(gl, 94, uc ++ spl)]) := H3
      refine ⟨[Value.slice (hd gl) q capl], rfl, rfl, HF.less, fun h0 => ⟨hd gl, capl, uc, by rw [hxs], ⟨by rw [hxs]; omega, fun _ => by decide⟩, by rw [hxs]; exact HF.rd (i := 4) (o := gl) (xs := uc) (sp := spl) rfl hul (by decide), fun _ p hp => ⟨place_new HF rfl (i := 0) rfl p hp, row_apart HF (i := 0) rfl p hp, HF.tw (i := 4) rfl p hp⟩, fun _ _ p hp => HF.tw (i := 4) rfl p hp, fun j hj => thaccount.mono (hel h0 j hj) (fun p hp => ⟨hp.1, fun hq => hp.2.1 (show p ∈ bl ((vr gp gr gb cb sb b i1 e1 ++ [(some go, U, putAt cs o [Value.slice (hd gl) q capl])]) ++ [(gl, 94, uc ++ spl)]) from bl_left hq), hp.2.2⟩)⟩⟩
theorem vlaccount_R : WalkR Tryz.prog 49 (Th.many thaccount false) := vlaccount_r
end Go.Proofs.YtoeobicpdeklaaaGreat
