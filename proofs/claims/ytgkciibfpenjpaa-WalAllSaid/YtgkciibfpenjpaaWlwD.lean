/- Walks of layer 2, printed by wip/gen/codec.py. -/
import Derived.Test.YtgkciibfpenjpaaNrm
import Derived.Test.YtgkciibfpenjpaaWlwC
namespace Go.Proofs.Ytgkciibfpenjpaa
open Go Go.RowKit
set_option linter.unusedVariables false
attribute [local irreducible] Still Ops Does Cd
set_option maxRecDepth 100000 in
set_option maxHeartbeats 4000000 in
theorem appendB_any (m : Mw) (D : Dk) (W : Wl) (k : Mk) (K : Bk) (w0 : World) (H0 : Hp w0 w0 (bl (bRows m D W k K)) (bRows m D W k K)) (h : BOk w0 m D W k K []) (s : Nat) (hlg : Lg D.show D.kept.length W s) (hd0 : D.down = false) (hdead : W.dead = false) (hag : Agr W K) (hwt : D.wait.length ≤ 900000000) (hfl : W.first ≤ 2 ^ 40) (htl : W.turn ≤ 2 ^ 40) (hn : K.all.length ≤ 16000) (A : Option Addr) (b : Blk) (c : Nat) (hr : Rd w0 A b.length 1 (u8s b)) (ha : 0 < b.length → ∀ p, A = some p → p.block ∉ bl (bRows m D W k K)) (hbl : b.length ≤ 2 ^ 46) :
    Does Try.prog 14 #[.pointer (some ⟨k.gb, 0, none⟩), .slice A b.length c] w0 (fun r w' => r = .bool true ∧ ∃ D' W' K', AppB D W s b K D' W' K' ∧ BPost w0 w' (bl (bRows m D W k K)) m D' W' k K') := by
  refine does_of Try.func14 Try.ntmps14 rfl ?_
  refine nR76 ?_
  have H := H0
  have hbk := h
  have hxs : XsOk w0 m.xs m.xs := XsOk.refl _ _
  refine run_seq ?_
  refine run_region ?_
  refine ops_val (ex_assign rfl) ?_
  refine ops_nil ?_
  refine nR76 ?_
  refine run_seq ?_
  refine run_region ?_
  refine ops_val (ex_move rfl) ?_
  refine ops_call_slice (ex_call gf45 rfl) (own_any A b c _ hr 71 (by omega)) ?_
  intro w1 gi ci si ⟨hmi, hci, Hd⟩
  have H1 := H.call0 Hd
  obtain ⟨gx, rfl⟩ := own_some H1 (i := 8) rfl (by rw [List.length_append, u8s_length, List.length_append]; simp only [List.length_cons]; omega)
  have e71 : u8s b ++ (u8s [71, 71] ++ si) = u8s (b ++ [71, 71]) ++ si := by rw [u8s_append, List.append_assoc]
  rw [← e71] at H1
  replace hbk : BOk w1 m D W k K [((some gx, 5, u8s b ++ (u8s [71, 71] ++ si)) : Ent)] := hbk.move H1 [8] rfl
  refine ops_val (ex_assign rfl) ?_
  refine ops_nil ?_
  refine nR76 ?_
  refine run_seq ?_
  refine run_region ?_
  refine ops_val (ex_move rfl) ?_
  refine ops_val (ex_nilCheck rfl) ?_
  refine ops_val (ex_fieldAddr fl31_1 rfl) ?_
  refine ops_val (ex_load ty28 rfl (H1.cell (i := 6) rfl rfl)) ?_
  refine nO76 ?_
  refine ops_val (ex_move rfl) ?_
  refine ops_call (ex_call gf11 rfl) (append_any m D W _ (H1.pick [0, 1, 2, 3, 4, 5] (by decide)).here hbk.ok (hd (some gx)) b ci (H1.rd (i := 8) (o := some gx) (xs := u8s b) (sp := u8s [71, 71] ++ si) rfl (u8s_length1 _) (by decide)) (fun _ p hp hx => by simp only [hd, Option.map_some, Option.some.injEq] at hp; subst hp; exact row_not H1 (i := 8) rfl (is := [0, 1, 2, 3, 4, 5]) (by decide) hx) (by omega) (by omega)) ?_
  rintro r w2 ⟨x, D1, W1, hr2, hres, hwp⟩
  rw [hr2]
  have hal := app_law hlg hd0 hdead hres
  obtain ⟨q1, hxsq1, hbk2, Hc⟩ := hbk.call (lt_pick H1 [6, 7, 8] rfl) hwp
  replace hxs : XsOk w0 m.xs (mv m q1).xs := hxs.trans hxsq1 H1.size
  replace hbk : BOk w2 (mv m q1) D1 W1 k K [((some gx, 5, u8s b ++ (u8s [71, 71] ++ si)) : Ent)] := hbk2
  have H2 : Hp w0 w2 (bl (bRows m D W k K)) (bRows (mv m q1) D1 W1 k K ++ [((some gx, 5, u8s b ++ (u8s [71, 71] ++ si)) : Ent)]) := (H1.callr [0, 1, 2, 3, 4, 5] rfl Hc).pick [9, 10, 11, 12, 13, 14, 6, 7, 8] (by decide)
  refine ops_val (ex_assign rfl) ?_
  refine ops_nil ?_
  refine nR76 ?_
  refine run_seq ?_
  refine run_seq ?_
  refine run_region ?_
  refine ops_val (ex_move rfl) ?_
  refine ops_val (ex_move rfl) ?_
  refine ops_call_val (ex_call gf46 rfl) (kept_any (hd (some gx)) A b ci c 71 _ (H2.rd (i := 8) (o := some gx) (xs := u8s (b ++ [71, 71])) (sp := si) (by rw [← e71]; rfl) (u8s_length1 _) (by decide)) (Rd.fcw hr H2 ha) hmi (by omega)) ?_
  intro w3 Hd
  replace hbk := hbk.keep0 Hd
  have H3 := H2.call0 Hd
  refine ops_val (ex_not rfl) ?_
  refine ops_nil ?_
  refine nR76 ?_
  refine run_cond_false rfl ?_
  refine run_skip ?_
  refine run_seq ?_
  refine run_seq ?_
  refine run_region ?_
  refine ops_val (ex_assign rfl) ?_
  refine ops_nil ?_
  refine nR76 ?_
  refine run_block ?_
  refine run_loop (fun n l w => ∃ (i : Nat) (y : Int) (cs : List Value), b.length - i = n ∧ Fits [some (.pointer (some ⟨k.gb, 0, none⟩)), some (.slice A b.length c), none, none, none, some (.slice (some ⟨gx, 0, none⟩) b.length ci), some (.int .i64 x), some (.int .i64 y), none, none, none, none, none, none, none, none, none, none, none, none, none, none, none, none, none, none, none, none, none, none, none, none, none, none, none, none, none, none, none, none, none, none, none, none, none, none, none, none, none, none, none, none, none, none, none, none, none, none, none, none, none, none, none, none, none, none, none, none, none, none, none, none, none, none, none, none] l ∧ y = i ∧ i ≤ b.length ∧ b.length ≤ cs.length ∧ BOk w (mv m q1) D1 W1 k K [((some gx, 5, cs) : Ent)] ∧ Hp w0 w (bl (bRows m D W k K)) (bRows (mv m q1) D1 W1 k K ++ [((some gx, 5, cs) : Ent)])) (b.length) ?_ ?_
  · exact ⟨0, _, _, rfl, (fs (fs (fn (fn (fn (fs (fs (fs (fn (fn (fn (fn (fn (fn (fn (fn (fn (fn (fn (fn (fn (fn (fn (fn (fn (fn (fn (fn (fn (fn (fn (fn (fn (fn (fn (fn (fn (fn (fn (fn (fn (fn (fn (fn (fn (fn (fn (fn (fn (fn (fn (fn (fn (fn (fn (fn (fn (fn (fn (fn (fn (fn (fn (fn (fn (fn (fn (fn (fn (fn (fn (fn (fn (fn (fn (fn f0)))))))))))))))))))))))))))))))))))))))))))))))))))))))))))))))))))))))))))), rfl, Nat.zero_le _, by rw [List.length_append, u8s_length]; omega, hbk, H3⟩
  · rintro n l w4 ⟨i, y, cs, rfl, hfit, rfl, hi, hcl, hbk, H4⟩
    obtain ⟨j, rfl⟩ := hfit.open
    refine nR76 ?_
    clear hfit
    have HB := H4
    replace H4 := HB.here
    refine run_seq ?_
    refine run_seq ?_
    refine run_region ?_
    refine ops_val (ex_move rfl) ?_
    refine ops_val (ex_move rfl) ?_
    refine ops_val (ex_len_slice Try.underlying34 rfl) ?_
    refine ops_test (ex_lss rfl rfl) (fun hp23 => ?_) (fun hp23 => ?_)
    · have hil : i < b.length := by omega
      refine ops_nil ?_
      refine nR76 ?_
      refine run_cond_true rfl ?_
      refine run_skip ?_
      refine run_seq ?_
      refine run_block ?_
      refine run_region ?_
      refine ops_val (ex_move rfl) ?_
      refine ops_val (ex_move rfl) ?_
      refine ops_val (ex_idx Try.underlying34 ty5 rfl rfl rfl (by omega) (Nat.mul_one _)) ?_
      rw [Addr.add_lit]
      refine ops_store1 ty5 H4 8 rfl rfl rfl rfl (by omega) rfl ?_
      intro w5 H5
      replace hbk : BOk w5 (mv m q1) D1 W1 k K [((some gx, 5, cs.set (0 + i) (.int .u8 98)) : Ent)] := hbk.move H5 [8] rfl
      refine ops_nil ?_
      refine nR76 ?_
      refine run_nil (blk_normal ?_)
      refine run_region ?_
      refine ops_val (ex_move rfl) ?_
      refine ops_val (ex_add rfl rfl (IntWalk.i64_in _ (by omega))) ?_
      refine ops_val (ex_assign rfl) ?_
      refine ops_nil ?_
      refine nR76 ?_
      refine run_nil (rnd_normal ?_)
      exact ⟨b.length - (i + 1), by omega, i + 1, _, cs.set (0 + i) (.int .u8 98), rfl, (fs (fs (fn (fn (fn (fs (fs (fs (fn (fn (fn (fn (fn (fn (fn (fn (fn (fn (fn (fn (fn (fn (fn (fn (fn (fn (fn (fn (fn (fn (fn (fn (fn (fn (fn (fn (fn (fn (fn (fn (fn (fn (fn (fn (fn (fn (fn (fn (fn (fn (fn (fn (fn (fn (fn (fn (fn (fn (fn (fn (fn (fn (fn (fn (fn (fn (fn (fn (fn (fn (fn (fn (fn (fn (fn (fn f0)))))))))))))))))))))))))))))))))))))))))))))))))))))))))))))))))))))))))))), by omega, by omega, by rw [List.length_set]; exact hcl, hbk, (HB.callr [0, 1, 2, 3, 4, 5, 6, 7, 8] rfl H5).pick [9, 10, 11, 12, 13, 14, 15, 16, 17] (by decide)⟩
    · have hrL := Rd.fcw hr HB ha
      have haL := fun h0 => apt_to hr h0 (ha h0) HB
      refine ops_nil ?_
      refine nR76 ?_
      refine run_cond_false rfl ?_
      refine run_exit ?_
      refine rnd_exit ?_
      refine blk_exit ?_
      refine run_seq ?_
      refine run_seq ?_
      refine run_region ?_
      refine ops_val (ex_move rfl) ?_
      refine ops_nil ?_
      refine nR76 ?_
      refine run_block ?_
      refine run_seq ?_
      refine run_seq ?_
      refine run_region ?_
      refine ops_test (ex_eql rfl rfl) (fun hp31 => ?_) (fun hp31 => ?_)
      · have hx0 : x = 0 := by omega
        obtain ⟨hb, hlg1, hd1, har1, hW1⟩ := app_0 hal hx0
        refine ops_val (ex_assign rfl) ?_
        refine ops_nil ?_
        refine nR76 ?_
        refine run_cond_true rfl ?_
        refine run_skip ?_
        refine run_cond_true rfl ?_
        refine run_seq ?_
        refine run_seq ?_
        refine run_region ?_
        refine ops_val (ex_move rfl) ?_
        refine ops_val (ex_len_slice Try.underlying34 rfl) ?_
        refine ops_false (ex_gtr rfl rfl) (by omega) ?_
        refine ops_nil ?_
        refine nR76 ?_
        refine run_cond_false rfl ?_
        refine run_skip ?_
        refine run_seq ?_
        refine run_mixZ 12 [(true, 0), (true, 1), (true, 2), (true, 3), (true, 4), (true, 6), (false, 5), (false, 7), (false, 8), (false, 9), (true, 10), (true, 11), (false, 12)] H4 [6] mixed (by decide) (by kernel_rfl) ?_
        rintro w5 hw5
        have H5 := Hp.drew H4; rw [← hw5] at H5
        refine mixz_p rfl ?_
        refine mix1_val (fun wz hz => ex_move rfl) ?_
        refine mixz_p rfl ?_
        refine mix1_val (fun wz hz => ex_move rfl) ?_
        refine mixz_p rfl ?_
        refine mix1_val (fun wz hz => ex_nilCheck rfl) ?_
        refine mixz_p rfl ?_
        refine mix1_val (fun wz hz => ex_fieldAddr fl31_2 rfl) ?_
        refine nZ76 ?_
        refine mixz_p rfl ?_
        refine mix1_val (fun wz hz => ex_load ty29 rfl (hz.cell (i := 0) rfl rfl)) ?_
        refine mixz_p rfl ?_
        refine mix1_val (fun wz hz => ex_move rfl) ?_
        refine mixz_o rfl ?_
        refine ops_buildSlice Try.underlying34 ty5 H5 (cs := []) rfl (by decide) rfl ?_
        intro w6 g41 H6 hg41
        refine ops_nil ?_
        refine ⟨fun hne => H6.pick [6] (by decide), ?_⟩
        refine nZ76 ?_
        refine mixz_o rfl ?_
        refine ops_app8 Try.underlying34 ty5 H6 9 (L := []) (M := b) (g := some g41) (cap := 0) (sp := []) rfl rfl (Nat.zero_le _) (Nat.le_refl _) (fun _ => rfl) rfl (Rd.fcw hrL H6 haL) (by simp; omega) ?_
        intro w7 g43 c43 s43 H7 hm43 hc43 hg43
        rw [List.nil_append] at H7
        simp only [List.nil_append]
        have hfr43 : ∀ gy, g43 = some gy → w0.heap.size ≤ gy := by
          intro gy hy
          subst hy
          rcases (Hp.place (i := 9) H7 rfl) with h1 | h1
          · exact absurd h1 (row_not H7 (i := 9) rfl (is := [0, 1, 2, 3, 4, 5, 6, 7, 8]) (by decide))
          · have := HB.size
            omega
        refine ops_nil ?_
        refine ⟨fun hne => H7.pick [6] (by decide), ?_⟩
        refine nZ76 ?_
        refine mixz_o rfl ?_
        refine ops_buildSlice Try.underlying29 ty34 H7 (cs := [.slice (hd g43) b.length c43]) rfl (by decide) rfl ?_
        intro w8 g44 H8 hg44
        refine ops_nil ?_
        refine ⟨fun hne => H8.pick [6] (by decide), ?_⟩
        refine nZ76 ?_
        refine mixz_o rfl ?_
        refine ops_append Try.underlying29 ty34 (by decide) H8 7 (g := k.ga) (n := K.all.length) (cap := k.ca) (xs := k.ys) (sp := k.sa) rfl rfl (by rw [h.all.1, Nat.mul_one]) (by rw [Nat.mul_one]; exact h.room) h.cap h.nil rfl (H8.rd (i := 10) (o := some g44) (xs := [.slice (hd g43) b.length c43]) (sp := []) rfl rfl (by decide)) rfl (by omega) (by omega) (by decide) ?_
        intro w9 g45 c45 s45 H9 hc45 hm45 hg45
        rw [Nat.mul_one] at hc45
        refine ops_nil ?_
        refine ⟨fun hne => H9.pick [6] (by decide), ?_⟩
        refine nZ76 ?_
        refine mixz_p rfl ?_
        refine mix1_val (fun wz hz => ex_nilCheck rfl) ?_
        refine mixz_p rfl ?_
        refine mix1_val (fun wz hz => ex_fieldAddr fl31_2 rfl) ?_
        refine mixz_o rfl ?_
        refine ops_store1 ty29 H9 6 rfl rfl rfl rfl (by first | decide | simp) rfl ?_
        intro w10 H10
        refine ops_nil ?_
        refine ⟨fun hne => absurd rfl hne, ?_⟩
        refine nZ76 ?_
        refine mixz_nil ?_
        refine nR76 ?_
        refine run_seq ?_
        refine run_region ?_
        refine ops_val (ex_move rfl) ?_
        refine ops_val (ex_nilCheck rfl) ?_
        refine ops_val (ex_fieldAddr fl31_3 rfl) ?_
        refine ops_val (ex_load ty3 rfl (H10.cell (i := 6) rfl rfl)) ?_
        refine nO76 ?_
        refine ops_val (ex_add rfl rfl ((IntWalk.i64_in _ (by omega)).trans (show ((K.all.length : Int) + 1) = ((K.all.length + 1 : Nat) : Int) by omega))) ?_
        refine ops_val (ex_nilCheck rfl) ?_
        refine ops_val (ex_fieldAddr fl31_3 rfl) ?_
        refine ops_store1 ty3 H10 6 rfl rfl rfl rfl (by first | decide | simp) rfl ?_
        intro w11 H11
        refine ops_nil ?_
        refine nR76 ?_
        refine run_seq ?_
        refine run_seq ?_
        refine run_region ?_
        refine ops_val (ex_move rfl) ?_
        refine ops_false (ex_eql rfl rfl) (by omega) ?_
        refine ops_nil ?_
        refine nR76 ?_
        refine run_cond_false rfl ?_
        refine run_skip ?_
        refine run_seq ?_
        refine run_region ?_
        refine ops_val (ex_move rfl) ?_
        have e1 : (K.all ++ [b]).length = K.all.length + 1 := by rw [List.length_append]; rfl
        have hb3 : BOk w11 (mv m q1) D1 W1 (k.push g45 c45 s45 g43 b.length c43) (K.push b) [] := hbk.push H11 (fun x hx => bl_pick (is := [0, 1, 2, 3, 4, 5, 6, 7]) H11 x (by simpa [bl, Mk.push] using hx)) (H11.rd (i := 9) (o := g43) (xs := u8s b) (sp := s43) rfl (u8s_length1 _) (by decide)) (fun p hp hx => by
          cases g43 with
          | none => simp [hd] at hp
          | some gy => simp only [hd, Option.map_some, Option.some.injEq] at hp; subst hp; exact row_not H11 (i := 9) rfl (is := [0, 1, 2, 3, 4, 5, 6, 7]) (by decide) (by simpa [bl, Mk.push] using hx)) hm45 hc45 hg45 hb (by omega)
        have hz0 : Hp w0 w11 (bl (bRows m D W k K)) (bRows (mv m q1) D1 W1 (k.push g45 c45 s45 g43 b.length c43) (K.push b)) := by
          unfold bRows kRows bcl Bk.push Mk.push
          simp only [e1]
          exact (HB.callr [0, 1, 2, 3, 4, 5, 6, 7, 8] rfl H11).pick [9, 10, 11, 12, 13, 14, 15, 16] (by decide)
        have hys : XsOk w0 k.ys (k.push g45 c45 s45 g43 b.length c43).ys := XsOk.snoc (fun p hp => by
          cases g43 with
          | none => simp [hd] at hp
          | some gy =>
            simp only [hd, Option.map_some, Option.some.injEq] at hp
            subst hp
            exact hfr43 gy rfl)
        refine ops_call_val (ex_call gf12 rfl) (agree_any (mv m q1) D1 W1 (k.push g45 c45 s45 g43 b.length c43) (K.push b) _ hz0.here hb3 (by rw [hW1]; exact hag.push D b)) ?_
        intro w12 Hd
        have H12 := hz0.call0 Hd
        refine ops_val (ex_assign rfl) ?_
        refine ops_nil ?_
        refine nR76 ?_
        refine run_ret ?_
        refine blk_ret ?_
        refine fin_ret1 rfl rfl ?_
        exact ⟨rfl, D1, W1, K.push b, ⟨x, hal, .inr ⟨.inl hx0, rfl⟩⟩, (mv m q1), (k.push g45 c45 s45 g43 b.length c43), rfl, hxs, hys, hb3.keep0 Hd, H12.pick [0, 1, 2, 3, 4, 5, 6, 7] (by decide)⟩
      · have hx0 : x ≠ 0 := by omega
        refine ops_val (ex_assign rfl) ?_
        refine ops_nil ?_
        refine nR76 ?_
        refine run_cond_false rfl ?_
        refine run_region ?_
        refine ops_test (ex_eql rfl rfl) (fun hp32 => ?_) (fun hp32 => ?_)
        · have hx4 : x = 40 := by omega
          obtain ⟨hb, hd1, hW1, hw1⟩ := app_40 hal hx4
          refine ops_val (ex_assign rfl) ?_
          refine ops_nil ?_
          refine nR76 ?_
          refine run_cond_true rfl ?_
          refine run_seq ?_
          refine run_seq ?_
          refine run_region ?_
          refine ops_val (ex_move rfl) ?_
          refine ops_val (ex_len_slice Try.underlying34 rfl) ?_
          refine ops_false (ex_gtr rfl rfl) (by omega) ?_
          refine ops_nil ?_
          refine nR76 ?_
          refine run_cond_false rfl ?_
          refine run_skip ?_
          refine run_seq ?_
          refine run_mixZ 12 [(true, 0), (true, 1), (true, 2), (true, 3), (true, 4), (true, 6), (false, 5), (false, 7), (false, 8), (false, 9), (true, 10), (true, 11), (false, 12)] H4 [6] mixed (by decide) (by kernel_rfl) ?_
          rintro w5 hw5
          have H5 := Hp.drew H4; rw [← hw5] at H5
          refine mixz_p rfl ?_
          refine mix1_val (fun wz hz => ex_move rfl) ?_
          refine mixz_p rfl ?_
          refine mix1_val (fun wz hz => ex_move rfl) ?_
          refine mixz_p rfl ?_
          refine mix1_val (fun wz hz => ex_nilCheck rfl) ?_
          refine mixz_p rfl ?_
          refine mix1_val (fun wz hz => ex_fieldAddr fl31_2 rfl) ?_
          refine nZ76 ?_
          refine mixz_p rfl ?_
          refine mix1_val (fun wz hz => ex_load ty29 rfl (hz.cell (i := 0) rfl rfl)) ?_
          refine mixz_p rfl ?_
          refine mix1_val (fun wz hz => ex_move rfl) ?_
          refine mixz_o rfl ?_
          refine ops_buildSlice Try.underlying34 ty5 H5 (cs := []) rfl (by decide) rfl ?_
          intro w6 g41 H6 hg41
          refine ops_nil ?_
          refine ⟨fun hne => H6.pick [6] (by decide), ?_⟩
          refine nZ76 ?_
          refine mixz_o rfl ?_
          refine ops_app8 Try.underlying34 ty5 H6 9 (L := []) (M := b) (g := some g41) (cap := 0) (sp := []) rfl rfl (Nat.zero_le _) (Nat.le_refl _) (fun _ => rfl) rfl (Rd.fcw hrL H6 haL) (by simp; omega) ?_
          intro w7 g43 c43 s43 H7 hm43 hc43 hg43
          rw [List.nil_append] at H7
          simp only [List.nil_append]
          have hfr43 : ∀ gy, g43 = some gy → w0.heap.size ≤ gy := by
            intro gy hy
            subst hy
            rcases (Hp.place (i := 9) H7 rfl) with h1 | h1
            · exact absurd h1 (row_not H7 (i := 9) rfl (is := [0, 1, 2, 3, 4, 5, 6, 7, 8]) (by decide))
            · have := HB.size
              omega
          refine ops_nil ?_
          refine ⟨fun hne => H7.pick [6] (by decide), ?_⟩
          refine nZ76 ?_
          refine mixz_o rfl ?_
          refine ops_buildSlice Try.underlying29 ty34 H7 (cs := [.slice (hd g43) b.length c43]) rfl (by decide) rfl ?_
          intro w8 g44 H8 hg44
          refine ops_nil ?_
          refine ⟨fun hne => H8.pick [6] (by decide), ?_⟩
          refine nZ76 ?_
          refine mixz_o rfl ?_
          refine ops_append Try.underlying29 ty34 (by decide) H8 7 (g := k.ga) (n := K.all.length) (cap := k.ca) (xs := k.ys) (sp := k.sa) rfl rfl (by rw [h.all.1, Nat.mul_one]) (by rw [Nat.mul_one]; exact h.room) h.cap h.nil rfl (H8.rd (i := 10) (o := some g44) (xs := [.slice (hd g43) b.length c43]) (sp := []) rfl rfl (by decide)) rfl (by omega) (by omega) (by decide) ?_
          intro w9 g45 c45 s45 H9 hc45 hm45 hg45
          rw [Nat.mul_one] at hc45
          refine ops_nil ?_
          refine ⟨fun hne => H9.pick [6] (by decide), ?_⟩
          refine nZ76 ?_
          refine mixz_p rfl ?_
          refine mix1_val (fun wz hz => ex_nilCheck rfl) ?_
          refine mixz_p rfl ?_
          refine mix1_val (fun wz hz => ex_fieldAddr fl31_2 rfl) ?_
          refine mixz_o rfl ?_
          refine ops_store1 ty29 H9 6 rfl rfl rfl rfl (by first | decide | simp) rfl ?_
          intro w10 H10
          refine ops_nil ?_
          refine ⟨fun hne => absurd rfl hne, ?_⟩
          refine nZ76 ?_
          refine mixz_nil ?_
          refine nR76 ?_
          refine run_seq ?_
          refine run_region ?_
          refine ops_val (ex_move rfl) ?_
          refine ops_val (ex_nilCheck rfl) ?_
          refine ops_val (ex_fieldAddr fl31_3 rfl) ?_
          refine ops_val (ex_load ty3 rfl (H10.cell (i := 6) rfl rfl)) ?_
          refine nO76 ?_
          refine ops_val (ex_add rfl rfl ((IntWalk.i64_in _ (by omega)).trans (show ((K.all.length : Int) + 1) = ((K.all.length + 1 : Nat) : Int) by omega))) ?_
          refine ops_val (ex_nilCheck rfl) ?_
          refine ops_val (ex_fieldAddr fl31_3 rfl) ?_
          refine ops_store1 ty3 H10 6 rfl rfl rfl rfl (by first | decide | simp) rfl ?_
          intro w11 H11
          refine ops_nil ?_
          refine nR76 ?_
          refine run_seq ?_
          refine run_seq ?_
          refine run_region ?_
          refine ops_val (ex_move rfl) ?_
          refine ops_true (ex_eql rfl rfl) (by omega) ?_
          refine ops_nil ?_
          refine nR76 ?_
          refine run_cond_true rfl ?_
          refine run_seq ?_
          refine run_region ?_
          refine ops_val (ex_move rfl) ?_
          have e1 : (K.all ++ [b]).length = K.all.length + 1 := by rw [List.length_append]; rfl
          have hb3 : BOk w11 (mv m q1) D1 W1 (k.push g45 c45 s45 g43 b.length c43) (K.push b) [] := hbk.push H11 (fun x hx => bl_pick (is := [0, 1, 2, 3, 4, 5, 6, 7]) H11 x (by simpa [bl, Mk.push] using hx)) (H11.rd (i := 9) (o := g43) (xs := u8s b) (sp := s43) rfl (u8s_length1 _) (by decide)) (fun p hp hx => by
            cases g43 with
            | none => simp [hd] at hp
            | some gy => simp only [hd, Option.map_some, Option.some.injEq] at hp; subst hp; exact row_not H11 (i := 9) rfl (is := [0, 1, 2, 3, 4, 5, 6, 7]) (by decide) (by simpa [bl, Mk.push] using hx)) hm45 hc45 hg45 hb (by omega)
          have hz0 : Hp w0 w11 (bl (bRows m D W k K)) (bRows (mv m q1) D1 W1 (k.push g45 c45 s45 g43 b.length c43) (K.push b)) := by
            unfold bRows kRows bcl Bk.push Mk.push
            simp only [e1]
            exact (HB.callr [0, 1, 2, 3, 4, 5, 6, 7, 8] rfl H11).pick [9, 10, 11, 12, 13, 14, 15, 16] (by decide)
          have hys : XsOk w0 k.ys (k.push g45 c45 s45 g43 b.length c43).ys := XsOk.snoc (fun p hp => by
            cases g43 with
            | none => simp [hd] at hp
            | some gy =>
              simp only [hd, Option.map_some, Option.some.injEq] at hp
              subst hp
              exact hfr43 gy rfl)
          refine ops_call (ex_call gf47 rfl) (fallen_any (mv m q1) D1 W1 (k.push g45 c45 s45 g43 b.length c43) (K.push b) _ hz0.here hb3 (by rw [hW1]) hd1 (by omega) (by rw [hW1]; show W.first ≤ _; omega) (by rw [hW1]; show W.turn ≤ _; omega)) ?_
          rintro r w12 ⟨hr3, hpost⟩
          rw [hr3]
          have H12 := hz0
          refine ops_val (ex_assign rfl) ?_
          refine ops_nil ?_
          refine nR76 ?_
          refine run_ret ?_
          refine blk_ret ?_
          refine fin_ret1 rfl rfl ?_
          exact ⟨rfl, D1, W1, K.push b, ⟨x, hal, .inr ⟨.inr hx4, rfl⟩⟩, BPost.of hz0 hxs hys rfl hpost⟩
        · have hx4 : x ≠ 40 := by omega
          refine ops_val (ex_assign rfl) ?_
          refine ops_nil ?_
          refine nR76 ?_
          refine run_cond_false rfl ?_
          refine run_seq ?_
          refine run_region ?_
          refine ops_test (ex_eql rfl rfl) (fun hp62 => ?_) (fun hp62 => ?_)
          · have hx5 : x = 22 := by omega
            obtain ⟨hlong, hD1, hW1⟩ := app_22 hal hx5
            refine ops_val (ex_assign rfl) ?_
            refine ops_nil ?_
            refine nR76 ?_
            refine run_cond_true rfl ?_
            refine run_seq ?_
            refine run_region ?_
            refine ops_val (ex_move rfl) ?_
            refine ops_val (ex_len_slice Try.underlying34 rfl) ?_
            refine ops_true (ex_gtr rfl rfl) (by omega) ?_
            refine ops_val (ex_move rfl) ?_
            refine nO76 ?_
            refine ops_yes rfl ?_
            refine ops_val (ex_move rfl) ?_
            refine ops_yes rfl ?_
            refine ops_call_val (ex_call gf12 rfl) (agree_any (mv m q1) D1 W1 k K _ (HB.pick [0, 1, 2, 3, 4, 5, 6, 7] (by decide)).here hbk.less (by rw [hW1]; exact hag)) ?_
            intro w5 Hd
            have H5 := HB.call0 Hd
            refine ops_val (ex_pick_t rfl rfl) ?_
            refine ops_val (ex_assign rfl) ?_
            refine ops_nil ?_
            refine nR76 ?_
            refine run_ret ?_
            refine blk_ret ?_
            refine fin_ret1 rfl rfl ?_
            exact ⟨rfl, D1, W1, K, ⟨x, hal, .inl ⟨.inl hx5, rfl⟩⟩, (mv m q1), k, rfl, hxs, XsOk.refl _ _, hbk.less.keep0 Hd, H5.pick [0, 1, 2, 3, 4, 5, 6, 7] (by decide)⟩
          · obtain ⟨hx3, hD1, hW1⟩ := app_3 hal hx0 hx4 (by omega)
            refine ops_val (ex_assign rfl) ?_
            refine ops_nil ?_
            refine nR76 ?_
            refine run_cond_false rfl ?_
            refine run_skip ?_
            refine run_nil (blk_normal ?_)
            refine run_seq ?_
            refine run_region ?_
            refine ops_val (ex_move rfl) ?_
            refine ops_true (ex_eql rfl rfl) (by omega) ?_
            refine ops_val (ex_move rfl) ?_
            refine nO76 ?_
            refine ops_yes rfl ?_
            refine ops_val (ex_move rfl) ?_
            refine ops_yes rfl ?_
            refine ops_call_val (ex_call gf12 rfl) (agree_any (mv m q1) D1 W1 k K _ (HB.pick [0, 1, 2, 3, 4, 5, 6, 7] (by decide)).here hbk.less (by rw [hW1]; exact hag)) ?_
            intro w5 Hd
            have H5 := HB.call0 Hd
            refine ops_val (ex_pick_t rfl rfl) ?_
            refine ops_val (ex_assign rfl) ?_
            refine ops_nil ?_
            refine nR76 ?_
            refine run_ret ?_
            refine fin_ret1 rfl rfl ?_
            exact ⟨rfl, D1, W1, K, ⟨x, hal, .inl ⟨.inr hx3, rfl⟩⟩, (mv m q1), k, rfl, hxs, XsOk.refl _ _, hbk.less.keep0 Hd, H5.pick [0, 1, 2, 3, 4, 5, 6, 7] (by decide)⟩
end Go.Proofs.Ytgkciibfpenjpaa
