/- Walks of layer 2, printed by wip/gen/codec.py. -/
import Derived.Test.YtgkciibfpenjpaaNrm
import Derived.Test.YtgkciibfpenjpaaWalG
namespace Go.Proofs.Ytgkciibfpenjpaa
open Go Go.RowKit
set_option linter.unusedVariables false
attribute [local irreducible] Still Ops Does Cd
def hdr (t f n s : Nat) : Blk := be8 t ++ be8 f ++ be8 n ++ be8 s ++ List.replicate 24 0 ++ be8 t
theorem hdr_len (t f n s : Nat) : (hdr t f n s).length = 64 := by simp [hdr, be8_len]
theorem hdr_cells (t f n s : Nat) : putAt (putAt (putAt (putAt (putAt (List.replicate 64 (Value.int .u8 0)) 0 (u8s (be8 t))) 8 (u8s (be8 f))) 16 (u8s (be8 n))) 24 (u8s (be8 s))) 56 (u8s (be8 t)) = u8s (hdr t f n s) := by rfl
def Wl.start (W : Wl) (gone : Nat) : Nat := W.places.getD gone W.fin
def Wl.head (W : Wl) (gone : Nat) : Blk := hdr (W.turn + 1) (W.first + gone) (W.first + W.recs.length) (W.start gone)
def tellW (D : Dk) (W : Wl) (gone : Nat) : Dk × Nat := D.write (((W.turn + 1) % 2 : Nat) : Int) (W.head gone)
def Wl.tell (W : Wl) (gone : Nat) : Wl := { W with turn := W.turn + 1, first := W.first + gone, recs := W.recs.drop gone, places := W.places.drop gone, told := (W.recs.drop gone).length }
def TellBad (D : Dk) (W : Wl) (gone : Nat) (D' : Dk) : Prop := ((tellW D W gone).2 ≠ 0 ∧ D' = (tellW D W gone).1) ∨ ((tellW D W gone).2 = 0 ∧ (tellW D W gone).1.sync.2 ≠ 0 ∧ D' = (tellW D W gone).1.sync.1)
def TellOk (D : Dk) (W : Wl) (gone : Nat) (D' : Dk) : Prop := (tellW D W gone).2 = 0 ∧ (tellW D W gone).1.sync.2 = 0 ∧ D' = (tellW D W gone).1.sync.1
theorem used_take {rs : List Blk} {k : Nat} (h : k < rs.length) : used (rs.take (k + 1)) = used (rs.take k) + wgt rs[k].length := by
  rw [List.take_add_one, List.getElem?_eq_getElem h, used_append]
  show _ + used [rs[k]] = _
  rw [used_one]
set_option maxRecDepth 100000 in
set_option maxHeartbeats 4000000 in
theorem cloneBS_any (A : Option Addr) (nn c : Nat) (xs : List Value) (w0 : World) (hr : Rd w0 A nn 1 xs) (h1 : xs.all (·.oneCell') = true) (hb : nn ≤ 2 ^ 40) :
    Does Try.prog 54 #[.slice A nn c] w0 (fun r w' => ∃ g cap sp, r = .slice (hd g) nn cap ∧ nn ≤ cap ∧ cap ≤ (xs ++ sp).length ∧ (g = none → cap = 0) ∧ Hp w0 w' [] [(g, 34, xs ++ sp)]) := by
  refine does_of Try.func54 Try.ntmps54 rfl ?_
  change Run _ _ _ _ [.slice A nn c, undef, undef, undef, undef, undef, undef, undef] _
  have H := Hp.refl w0
  refine run_seq ?_
  refine run_region ?_
  refine ops_val (ex_assign rfl) ?_
  refine ops_nil ?_
  change Run _ _ _ _ [_, _, _, _, _, _, _, _] _
  refine run_seq ?_
  refine run_seq ?_
  refine run_region ?_
  refine ops_val (ex_move rfl) ?_
  refine ops_test (ex_eql_nil_slice Try.underlying29 rfl) (fun hp4 => ?_) (fun hp4 => ?_)
  · skip
    refine ops_nil ?_
    change Run _ _ _ _ [_, _, _, _, _, _, _, _] _
    refine run_cond_true rfl ?_
    refine run_seq ?_
    refine run_region ?_
    refine ops_val (ex_assign rfl) ?_
    refine ops_nil ?_
    change Run _ _ _ _ [_, _, _, _, _, _, _, _] _
    refine run_ret ?_
    refine fin_ret1 rfl rfl ?_
    have hb0 : xs = [] := List.eq_nil_of_length_eq_zero (by rw [hr.len, hr.nil hp4])
    have hn0 := hr.nil hp4
    subst hb0 hn0
    exact ⟨none, 0, [], rfl, Nat.le_refl _, by simp, fun _ => rfl, by have := H.nil 34; exact this⟩
  · skip
    refine ops_nil ?_
    change Run _ _ _ _ [_, _, _, _, _, _, _, _] _
    refine run_cond_false rfl ?_
    refine run_skip ?_
    refine run_seq ?_
    refine run_region ?_
    refine ops_buildSlice Try.underlying29 ty34 H rfl (by decide) rfl ?_
    intro w1 g1 H1 hg1
    refine ops_val (ex_move rfl) ?_
    refine ops_append Try.underlying29 ty34 (by decide) H1 0 (g := some g1) (xs := []) (sp := []) rfl rfl rfl (by decide) (by decide) (by simp) rfl (hr.to0 H1) h1 (by omega) (by omega) (by decide) ?_
    intro w2 g3 cap3 sp3 H2 hcap3 hmc3 hg3
    refine ops_val (ex_assign rfl) ?_
    refine ops_nil ?_
    change Run _ _ _ _ [_, _, _, _, _, _, _, _] _
    refine run_ret ?_
    refine fin_ret1 rfl rfl ?_
    rw [Nat.zero_add] at hmc3 ⊢
    refine ⟨g3, cap3, sp3, rfl, hmc3, ?_, hg3, ?_⟩
    · rw [Nat.mul_one] at hcap3; simpa using hcap3
    · have hz := H2.pick [0] (by decide)
      simpa using hz
set_option maxRecDepth 100000 in
set_option maxHeartbeats 4000000 in
theorem cloneI_any (A : Option Addr) (nn c : Nat) (xs : List Value) (w0 : World) (hr : Rd w0 A nn 1 xs) (h1 : xs.all (·.oneCell') = true) (hb : nn ≤ 2 ^ 40) :
    Does Try.prog 64 #[.slice A nn c] w0 (fun r w' => ∃ g cap sp, r = .slice (hd g) nn cap ∧ nn ≤ cap ∧ cap ≤ (xs ++ sp).length ∧ (g = none → cap = 0) ∧ Hp w0 w' [] [(g, 3, xs ++ sp)]) := by
  refine does_of Try.func64 Try.ntmps64 rfl ?_
  change Run _ _ _ _ [.slice A nn c, undef, undef, undef, undef, undef, undef, undef] _
  have H := Hp.refl w0
  refine run_seq ?_
  refine run_region ?_
  refine ops_val (ex_assign rfl) ?_
  refine ops_nil ?_
  change Run _ _ _ _ [_, _, _, _, _, _, _, _] _
  refine run_seq ?_
  refine run_seq ?_
  refine run_region ?_
  refine ops_val (ex_move rfl) ?_
  refine ops_test (ex_eql_nil_slice Try.underlying22 rfl) (fun hp4 => ?_) (fun hp4 => ?_)
  · skip
    refine ops_nil ?_
    change Run _ _ _ _ [_, _, _, _, _, _, _, _] _
    refine run_cond_true rfl ?_
    refine run_seq ?_
    refine run_region ?_
    refine ops_val (ex_assign rfl) ?_
    refine ops_nil ?_
    change Run _ _ _ _ [_, _, _, _, _, _, _, _] _
    refine run_ret ?_
    refine fin_ret1 rfl rfl ?_
    have hb0 : xs = [] := List.eq_nil_of_length_eq_zero (by rw [hr.len, hr.nil hp4])
    have hn0 := hr.nil hp4
    subst hb0 hn0
    exact ⟨none, 0, [], rfl, Nat.le_refl _, by simp, fun _ => rfl, by have := H.nil 3; exact this⟩
  · skip
    refine ops_nil ?_
    change Run _ _ _ _ [_, _, _, _, _, _, _, _] _
    refine run_cond_false rfl ?_
    refine run_skip ?_
    refine run_seq ?_
    refine run_region ?_
    refine ops_buildSlice Try.underlying22 ty3 H rfl (by decide) rfl ?_
    intro w1 g1 H1 hg1
    refine ops_val (ex_move rfl) ?_
    refine ops_append Try.underlying22 ty3 (by decide) H1 0 (g := some g1) (xs := []) (sp := []) rfl rfl rfl (by decide) (by decide) (by simp) rfl (hr.to0 H1) h1 (by omega) (by omega) (by decide) ?_
    intro w2 g3 cap3 sp3 H2 hcap3 hmc3 hg3
    refine ops_val (ex_assign rfl) ?_
    refine ops_nil ?_
    change Run _ _ _ _ [_, _, _, _, _, _, _, _] _
    refine run_ret ?_
    refine fin_ret1 rfl rfl ?_
    rw [Nat.zero_add] at hmc3 ⊢
    refine ⟨g3, cap3, sp3, rfl, hmc3, ?_, hg3, ?_⟩
    · rw [Nat.mul_one] at hcap3; simpa using hcap3
    · have hz := H2.pick [0] (by decide)
      simpa using hz
set_option maxRecDepth 100000 in
set_option maxHeartbeats 4000000 in
theorem next_any (gv first nn c : Nat) (A : Option Addr) (w0 : World) (h3 : w0.cell? ⟨gv, 3, none⟩ = some (.int .i64 (first : Int))) (h4 : w0.cell? ⟨gv, 4, none⟩ = some (.slice A nn c)) (hb : first + nn ≤ 2 ^ 62) :
    Does Try.prog 15 #[.pointer (some ⟨gv, 0, none⟩)] w0 (fun r w' => r = .int .i64 ((first + nn : Nat) : Int) ∧ Hp w0 w' [] []) := by
  refine does_of Try.func15 Try.ntmps15 rfl ?_
  refine nR15 ?_
  have H := Hp.refl w0
  refine run_seq ?_
  refine run_region ?_
  refine ops_val (ex_assign rfl) ?_
  refine ops_nil ?_
  refine nR15 ?_
  refine run_seq ?_
  refine run_seq ?_
  refine run_region ?_
  refine ops_val (ex_move rfl) ?_
  refine ops_false (ex_eql_nil_ptr Try.underlying28 rfl) (by simp) ?_
  refine ops_nil ?_
  refine nR15 ?_
  refine run_cond_false rfl ?_
  refine run_skip ?_
  refine run_seq ?_
  refine run_mixH [(true, 0), (true, 1), (true, 2), (true, 3), (true, 4), (true, 5), (true, 6), (true, 7), (true, 8), (true, 9), (true, 10)] H [] mixed (by decide) (by kernel_rfl) ?_
  rintro w1 hw1
  have H1 := Hp.drew H; rw [← hw1] at H1
  refine mix_p rfl ?_
  refine mix1_val (fun wz hz => ex_move rfl) ?_
  refine mix_p rfl ?_
  refine mix1_val (fun wz hz => ex_nilCheck rfl) ?_
  refine mix_p rfl ?_
  refine mix1_val (fun wz hz => ex_fieldAddr fl58_3 rfl) ?_
  refine mix_p rfl ?_
  refine mix1_val (fun wz hz => ex_load ty3 rfl (cell_toW h3 hz (by simp))) ?_
  refine nM15 ?_
  refine mix_p rfl ?_
  refine mix1_val (fun wz hz => ex_move rfl) ?_
  refine mix_p rfl ?_
  refine mix1_val (fun wz hz => ex_nilCheck rfl) ?_
  refine mix_p rfl ?_
  refine mix1_val (fun wz hz => ex_fieldAddr fl58_4 rfl) ?_
  refine mix_p rfl ?_
  refine mix1_val (fun wz hz => ex_load ty29 rfl (cell_toW h4 hz (by simp))) ?_
  refine nM15 ?_
  refine mix_p rfl ?_
  refine mix1_val (fun wz hz => ex_len_slice Try.underlying29 rfl) ?_
  refine mix_p rfl ?_
  refine mix1_val (fun wz hz => ex_add rfl rfl ((IntWalk.i64_in _ (by omega)).trans (show ((first : Int) + (nn : Int)) = ((first + nn : Nat) : Int) by omega))) ?_
  refine mix_p rfl ?_
  refine mix1_val (fun wz hz => ex_assign rfl) ?_
  refine mix_nil ?_
  refine nR15 ?_
  refine run_ret ?_
  refine fin_ret1 rfl rfl ?_
  exact ⟨rfl, H1⟩
theorem rd_cut {w : World} {A : Option Addr} {nn c k : Nat} {xs : List Value} (h : Rd w A nn 1 xs) (hk : k ≤ nn) (hc : nn ≤ c) : Rd w (cutAddr A k c 1) (nn - k) 1 (xs.drop k) := by
  have h2 := h.cut k nn c hk (Nat.le_refl _) hc
  rw [Nat.mul_one, Nat.mul_one, List.take_of_length_le (by rw [List.length_drop, h.len]; omega)] at h2
  unfold cutAddr
  rw [Nat.mul_one]
  exact h2
theorem all_drop {xs : List Value} (h : xs.all (·.oneCell') = true) (k : Nat) : (xs.drop k).all (·.oneCell') = true := by
  rw [List.all_eq_true] at h ⊢
  exact fun v hv => h v (List.mem_of_mem_drop hv)
set_option maxRecDepth 100000 in
set_option maxHeartbeats 4000000 in
theorem tell_any (m : Mw) (D : Dk) (W : Wl) (w0 : World) (H0 : Hp w0 w0 (bl (wRows m D W)) (wRows m D W)) (h : WOk w0 m D W) (gone : Nat) (hgone : gone ≤ W.recs.length) (hwt : D.wait.length ≤ 1000000000) (hfl : W.first ≤ 2 ^ 50) (htl : W.turn ≤ 2 ^ 50) :
    DoesP Try.prog 44 #[.pointer (some ⟨m.gv, 0, none⟩), .int .i64 (gone : Int)] w0 (fun _ w' => TellOk D W gone (tellW D W gone).1.sync.1 ∧ WPost w0 w' (bl (wRows m D W)) m ((tellW D W gone).1.sync.1) (W.tell gone)) (fun ch w' => ch = fallC ∧ ∃ D', TellBad D W gone D' ∧ WPost w0 w' (bl (wRows m D W)) m (D') (W)) := by
  refine does_ofP Try.func44 Try.ntmps44 rfl ?_
  refine nR140 ?_
  have H := H0
  obtain ⟨hD, hlst, hrc, hrs, hrn, hpl, hpc, hps, hpn, hmost, hlong, hsize, hfin, hplb, hfirst, hturn, hused, htold⟩ := id h
  have hkept := hD.most
  refine run_seq ?_
  refine run_region ?_
  refine ops_val (ex_move rfl) ?_
  refine ops_val (ex_nilCheck rfl) ?_
  refine ops_val (ex_fieldAddr fl58_2 rfl) ?_
  refine ops_val (ex_load ty56 rfl (H.cell (i := 3) rfl rfl)) ?_
  refine nO140 ?_
  refine ops_val (ex_add rfl rfl ((IntWalk.u64_in _ (by omega)).trans (show ((W.turn : Int) + 1) = ((W.turn + 1 : Nat) : Int) by omega))) ?_
  refine ops_val (ex_assign rfl) ?_
  refine ops_nil ?_
  refine nR140 ?_
  refine run_seq ?_
  refine run_region ?_
  refine ops_make Try.underlying34 ty5 H rfl rfl (n := 64) (c := 64) (Nat.le_refl _) (by decide) (by decide) ?_
  intro w1 gb H1 hgb
  refine ops_val (ex_assign rfl) ?_
  refine ops_nil ?_
  refine nR140 ?_
  refine run_seq ?_
  refine run_region ?_
  refine ops_val (ex_move rfl) ?_
  refine ops_val (ex_nilCheck rfl) ?_
  refine ops_val (ex_fieldAddr fl58_6 rfl) ?_
  refine ops_val (ex_load ty3 rfl (H1.cell (i := 3) rfl rfl)) ?_
  refine nO140 ?_
  refine ops_val (ex_assign rfl) ?_
  refine ops_nil ?_
  refine nR140 ?_
  refine run_seq ?_
  refine run_seq ?_
  refine run_region ?_
  refine ops_val (ex_move rfl) ?_
  refine ops_val (ex_move rfl) ?_
  refine ops_val (ex_nilCheck rfl) ?_
  refine ops_val (ex_fieldAddr fl58_5 rfl) ?_
  refine nO140 ?_
  refine ops_val (ex_load ty22 rfl (H1.cell (i := 3) rfl rfl)) ?_
  refine ops_val (ex_len_slice Try.underlying22 rfl) ?_
  refine ops_test (ex_lss rfl rfl) (fun hp25 => ?_) (fun hp25 => ?_)
  · have hgl : gone < W.places.length := by omega
    obtain ⟨gpp, hgpp⟩ : ∃ x, m.gp = some x := by
      cases hx : m.gp with
      | none => have := hpn hx; omega
      | some x => exact ⟨x, rfl⟩
    have hst : W.start gone = W.places[gone] := by unfold Wl.start; rw [List.getD_eq_getElem?_getD, List.getElem?_eq_getElem hgl]; rfl
    have hplg := hplb _ (List.getElem_mem hgl)
    refine ops_nil ?_
    refine nR140 ?_
    refine run_cond_true rfl ?_
    refine run_region ?_
    refine ops_val (ex_move rfl) ?_
    refine ops_val (ex_nilCheck rfl) ?_
    refine ops_val (ex_fieldAddr fl58_5 rfl) ?_
    refine ops_val (ex_load ty22 rfl (H1.cell (i := 3) rfl rfl)) ?_
    refine nO140 ?_
    refine ops_val (ex_move rfl) ?_
    refine ops_val (ex_idx Try.underlying22 ty3 (a := ⟨gpp, 0, none⟩) (congrArg (fun A => some (Value.slice A W.places.length m.cp)) (show hd m.gp = some ⟨gpp, 0, none⟩ by rw [hgpp]; rfl)) rfl rfl hgl (Nat.mul_one _)) ?_
    rw [addz]
    refine ops_val (ex_load ty3 rfl (H1.cell (i := 5) (g := gpp) (T := 3) (cs := i64n W.places ++ m.sq) (o := gone) (by rw [← hgpp]; rfl) (by rw [List.getElem?_append_left (by rw [i64n_len]; exact hgl)]; exact i64n_get hgl))) ?_
    refine ops_val (ex_assign rfl) ?_
    refine ops_nil ?_
    refine nR140 ?_
    refine run_seq ?_
    refine run_region ?_
    refine ops_val (ex_move rfl) ?_
    refine ops_val (ex_move rfl) ?_
    refine ops_call (ex_call gf63 rfl) (lay_any gb 0 64 64 (W.turn + 1) _ _ (H1.pick [6] (by decide)).here (by decide) (by simp) (by omega)) ?_
    rintro r w2 Hc
    have H2 := (H1.callr [6] rfl Hc).pick [0, 1, 2, 3, 4, 5, 7] (by decide)
    refine ops_nil ?_
    refine nR140 ?_
    refine run_seq ?_
    refine run_mixZ 9 [(true, 0), (true, 1), (true, 2), (true, 3), (true, 4), (true, 5), (true, 6), (true, 7), (true, 8), (false, 9)] H2 [3] mixed (by decide) (by kernel_rfl) ?_
    rintro w3 hw3
    have H3 := Hp.drew H2; rw [← hw3] at H3
    refine mixz_p rfl ?_
    refine mix1_val (fun wz hz => ex_move rfl) ?_
    refine mixz_p rfl ?_
    refine mix1_val (fun wz hz => ex_cutLo Try.underlying34 ty5 rfl rfl ((by omega))) ?_
    refine mixz_p rfl ?_
    refine mix1_val (fun wz hz => ex_move rfl) ?_
    refine mixz_p rfl ?_
    refine mix1_val (fun wz hz => ex_nilCheck rfl) ?_
    refine nZ140 ?_
    refine mixz_p rfl ?_
    refine mix1_val (fun wz hz => ex_fieldAddr fl58_3 rfl) ?_
    refine mixz_p rfl ?_
    refine mix1_val (fun wz hz => ex_load ty3 rfl (hz.cell (i := 0) rfl rfl)) ?_
    refine mixz_p rfl ?_
    refine mix1_val (fun wz hz => ex_move rfl) ?_
    refine mixz_p rfl ?_
    refine mix1_val (fun wz hz => ex_add rfl rfl ((IntWalk.i64_in _ (by omega)).trans (show ((W.first : Int) + (gone : Int)) = ((W.first + gone : Nat) : Int) by omega))) ?_
    refine nZ140 ?_
    refine mixz_p rfl ?_
    refine mix1_val (fun wz hz => ex_conv Try.underlying56 Try.underlying3 rfl (IntWalk.u64_in _ (by omega))) ?_
    refine mixz_o rfl ?_
    refine ops_call (ex_call gf63 rfl) (lay_any gb 8 56 56 (W.first + gone) _ _ (H3.pick [6] (by decide)).here (by decide) (by simp [putAt, u8s_length, be8_len]) (by omega)) ?_
    rintro r w4 Hc
    have H4 := (H3.callr [6] rfl Hc).pick [0, 1, 2, 3, 4, 5, 7] (by decide)
    refine ops_nil ?_
    refine ⟨fun hne => absurd rfl hne, ?_⟩
    refine nZ140 ?_
    refine mixz_nil ?_
    refine nR140 ?_
    refine run_seq ?_
    refine run_mixZ 5 [(true, 0), (true, 1), (true, 2), (false, 3), (true, 4), (false, 5)] H4 [3] mixed (by decide) (by kernel_rfl) ?_
    rintro w5 hw5
    have H5 := Hp.drew H4; rw [← hw5] at H5
    refine mixz_p rfl ?_
    refine mix1_val (fun wz hz => ex_move rfl) ?_
    refine mixz_p rfl ?_
    refine mix1_val (fun wz hz => ex_cutLo Try.underlying34 ty5 rfl rfl ((by omega))) ?_
    refine mixz_p rfl ?_
    refine mix1_val (fun wz hz => ex_move rfl) ?_
    refine mixz_o rfl ?_
    refine ops_call_val (ex_call gf15 rfl) (next_any m.gv W.first W.recs.length m.cr (hd m.gr) _ (H5.cell (i := 3) rfl rfl) (H5.cell (i := 3) rfl rfl) (by omega)) ?_
    intro w6 Hc
    have H6 := (H5.call0 Hc).pick [0, 1, 2, 3, 4, 5, 6] (by decide)
    refine ops_nil ?_
    refine ⟨fun hne => H6.pick [3] (by decide), ?_⟩
    refine nZ140 ?_
    refine mixz_p rfl ?_
    refine mix1_val (fun wz hz => ex_conv Try.underlying56 Try.underlying3 rfl (IntWalk.u64_in _ (by omega))) ?_
    refine mixz_o rfl ?_
    refine ops_call (ex_call gf63 rfl) (lay_any gb 16 48 48 (W.first + W.recs.length) _ _ (H6.pick [6] (by decide)).here (by decide) (by simp [putAt, u8s_length, be8_len]) (by omega)) ?_
    rintro r w7 Hc
    have H7 := (H6.callr [6] rfl Hc).pick [0, 1, 2, 3, 4, 5, 7] (by decide)
    refine ops_nil ?_
    refine ⟨fun hne => absurd rfl hne, ?_⟩
    refine nZ140 ?_
    refine mixz_nil ?_
    refine nR140 ?_
    refine run_seq ?_
    refine run_region ?_
    refine ops_val (ex_move rfl) ?_
    refine ops_val (ex_cutLo Try.underlying34 ty5 rfl rfl ((by omega))) ?_
    refine ops_val (ex_move rfl) ?_
    refine ops_val (ex_conv Try.underlying56 Try.underlying3 rfl (IntWalk.u64_in _ (by omega))) ?_
    refine nO140 ?_
    refine ops_call (ex_call gf63 rfl) (lay_any gb 24 40 40 (W.places[gone]) _ _ (H7.pick [6] (by decide)).here (by decide) (by simp [putAt, u8s_length, be8_len]) (by omega)) ?_
    rintro r w8 Hc
    have H8 := (H7.callr [6] rfl Hc).pick [0, 1, 2, 3, 4, 5, 7] (by decide)
    refine ops_nil ?_
    refine nR140 ?_
    refine run_seq ?_
    refine run_region ?_
    refine ops_val (ex_move rfl) ?_
    refine ops_val (ex_cutLo Try.underlying34 ty5 rfl rfl ((by omega))) ?_
    refine ops_val (ex_move rfl) ?_
    refine ops_call (ex_call gf63 rfl) (lay_any gb 56 8 8 (W.turn + 1) _ _ (H8.pick [6] (by decide)).here (by decide) (by simp [putAt, u8s_length, be8_len]) (by omega)) ?_
    rintro r w9 Hc
    have H9 := (H8.callr [6] rfl Hc).pick [0, 1, 2, 3, 4, 5, 7] (by decide)
    refine ops_nil ?_
    refine nR140 ?_
    refine run_seq ?_
    refine run_region ?_
    refine ops_val (ex_move rfl) ?_
    refine ops_val (ex_nilCheck rfl) ?_
    refine ops_val (ex_fieldAddr fl58_0 rfl) ?_
    refine ops_val (ex_load ty27 rfl (H9.cell (i := 3) rfl rfl)) ?_
    refine nO140 ?_
    refine ops_val (ex_move rfl) ?_
    refine ops_val (ex_rem rfl rfl (by omega) (tmodN (W.turn + 1) 2)) ?_
    refine ops_val (ex_conv Try.underlying3 Try.underlying56 rfl (IntWalk.i64_in _ (by omega))) ?_
    refine ops_val (ex_move rfl) ?_
    refine nO140 ?_
    rw [hdr_cells, ← hst] at H9
    change Hp _ _ _ [_, _, _, _, _, _, (some gb, 5, u8s (W.head gone))] at H9
    have hwr := write_any m.gd m.gk m.gw m.cw m.sp D _ (H9.pick [0, 1, 2] (by decide)).here hD (((W.turn + 1) % 2 : Nat) : Int) (some ⟨gb, 0, none⟩) (W.head gone) 64 (H9.rd (i := 6) (o := some gb) (xs := u8s (W.head gone)) (sp := []) (by rw [List.append_nil]; rfl) (u8s_length1 _) (by decide)) (fun a hx hy => by cases hx; exact row_not H9 (i := 6) rfl (is := [0, 1, 2]) (by decide) hy) (by omega)
    rw [show (W.head gone).length = 64 from hdr_len _ _ _ _] at hwr
    refine ops_call (ex_call gf37 rfl) hwr ?_
    rintro r w10 ⟨hr2, gw2, cw2, sp2, hD2, Hd⟩
    rw [hr2]
    have H10 := (H9.callr [0, 1, 2] rfl Hd).pick [7, 8, 9, 3, 4, 5, 6] (by decide)
    have hb1 := write_bd D (((W.turn + 1) % 2 : Nat) : Int) (W.head gone)
    refine ops_callP (ex_call gf36 rfl) (must_any _ _) ?_ ?_
    · rintro ch wz ⟨hcd, rfl, rfl⟩
      have H9 := H10.pick [0, 1, 2, 3, 4, 5] (by decide)
      refine ⟨rfl, _, .inl ⟨hcd, rfl⟩, { m with gw := gw2, cw := cw2, sp := sp2 }, rfl, rfl, rfl, XsOk.refl _ _, ?_, H9⟩
      exact { h with d := hD2, lst := (hlst.to H10).less (fun x hx => bl_pick (is := [0, 1, 2, 3, 4, 5]) H10 x hx), size := by rw [show (tellW D W gone).1.kept.length = _ from hb1.2]; exact hsize, fin := by rw [show (tellW D W gone).1.kept.length = _ from hb1.2]; exact hfin }
    rintro r wz ⟨hcd1, rfl⟩
    refine ops_nil ?_
    refine nR140 ?_
    refine run_seq ?_
    refine run_region ?_
    refine ops_val (ex_move rfl) ?_
    refine ops_val (ex_nilCheck rfl) ?_
    refine ops_val (ex_fieldAddr fl58_0 rfl) ?_
    refine ops_val (ex_load ty27 rfl (H10.cell (i := 3) rfl rfl)) ?_
    refine nO140 ?_
    refine ops_call (ex_call gf43 rfl) (sync_any m.gd m.gk gw2 cw2 sp2 (tellW D W gone).1 _ (H10.pick [0, 1, 2] (by decide)).here hD2 (by have := hb1.1; show (Dk.write _ _ _).1.wait.length ≤ _; omega)) ?_
    rintro r w11 ⟨hr3, gw3, cw3, sp3, hD3, Hd⟩
    rw [hr3]
    have H11 := (H10.callr [0, 1, 2] rfl Hd).pick [7, 8, 9, 3, 4, 5, 6] (by decide)
    have hb2 := sync_bd (tellW D W gone).1
    have hk2 : (tellW D W gone).1.sync.1.kept.length = D.kept.length := by rw [hb2.2]; exact hb1.2
    refine ops_callP (ex_call gf36 rfl) (must_any _ _) ?_ ?_
    · rintro ch wz ⟨hcd, rfl, rfl⟩
      have H9 := H11.pick [0, 1, 2, 3, 4, 5] (by decide)
      refine ⟨rfl, _, .inr ⟨hcd1, hcd, rfl⟩, { m with gw := gw3, cw := cw3, sp := sp3 }, rfl, rfl, rfl, XsOk.refl _ _, ?_, H9⟩
      exact { h with d := hD3, lst := (hlst.to H11).less (fun x hx => bl_pick (is := [0, 1, 2, 3, 4, 5]) H11 x hx), size := by rw [hk2]; exact hsize, fin := by rw [hk2]; exact hfin }
    rintro r wz ⟨hcd2, rfl⟩
    refine ops_nil ?_
    refine nR140 ?_
    refine run_seq ?_
    refine run_seq ?_
    refine run_region ?_
    refine ops_val (ex_move rfl) ?_
    refine ops_val (ex_nilCheck rfl) ?_
    refine ops_val (ex_fieldAddr fl58_4 rfl) ?_
    refine ops_val (ex_load ty29 rfl (H11.cell (i := 3) rfl rfl)) ?_
    refine nO140 ?_
    refine ops_val (ex_move rfl) ?_
    refine ops_val (ex_cutHi Try.underlying29 ty34 rfl rfl ((by omega))) ?_
    refine ops_val (ex_len_slice Try.underlying29 rfl) ?_
    refine ops_val (ex_move rfl) ?_
    refine ops_nil ?_
    refine nR140 ?_
    refine run_block ?_
    refine run_loop (fun n l w => ∃ (k : Nat) (y : Int), gone - k = n ∧ Fits [some (.pointer (some ⟨m.gv, 0, none⟩)), some (.int .i64 (gone : Int)), none, none, some (.int .u64 ((W.turn + 1 : Nat) : Int)), none, none, none, none, none, none, none, none, none, none, none, none, none, none, none, none, none, none, none, none, none, none, none, none, none, none, none, none, none, none, none, none, none, none, none, none, none, none, none, none, none, none, none, none, none, none, none, none, none, none, none, none, none, none, none, none, none, none, none, none, none, none, none, none, none, none, none, none, none, none, none, none, none, none, none, none, none, some (.slice (hd m.gr) gone m.cr), some (.int .i64 (gone : Int)), some (.int .i64 y), none, none, none, none, none, none, none, none, none, none, none, none, none, none, none, none, none, none, none, none, none, none, none, none, none, none, none, none, none, none, none, none, none, none, none, none, none, none, none, none, none, none, none, none, none, none, none, none, none, none, none, none, none, none, none] l ∧ y = k ∧ k ≤ gone ∧ Hp w0 w (bl (wRows m D W)) (dRows m.gd m.gk gw3 cw3 sp3 (tellW D W gone).1.sync.1 ++ [(some m.gv, 58, [.pointer (some ⟨m.gd, 0, none⟩), .bool W.dead, .int .u64 (W.turn : Int), .int .i64 (W.first : Int), .slice (hd m.gr) W.recs.length m.cr, .slice (hd m.gp) W.places.length m.cp, .int .i64 (W.fin : Int), .int .i64 ((used W.recs - used (W.recs.take k) : Nat) : Int), .int .i64 (W.told : Int)]), (m.gr, 34, m.xs ++ m.sr), (m.gp, 3, i64n W.places ++ m.sq), (some gb, 5, u8s (W.head gone))])) (gone) ?_ ?_
    · refine ⟨0, _, rfl, (fs (fs (fn (fn (fs (fn (fn (fn (fn (fn (fn (fn (fn (fn (fn (fn (fn (fn (fn (fn (fn (fn (fn (fn (fn (fn (fn (fn (fn (fn (fn (fn (fn (fn (fn (fn (fn (fn (fn (fn (fn (fn (fn (fn (fn (fn (fn (fn (fn (fn (fn (fn (fn (fn (fn (fn (fn (fn (fn (fn (fn (fn (fn (fn (fn (fn (fn (fn (fn (fn (fn (fn (fn (fn (fn (fn (fn (fn (fn (fn (fn (fn (fs (fs (fs (fn (fn (fn (fn (fn (fn (fn (fn (fn (fn (fn (fn (fn (fn (fn (fn (fn (fn (fn (fn (fn (fn (fn (fn (fn (fn (fn (fn (fn (fn (fn (fn (fn (fn (fn (fn (fn (fn (fn (fn (fn (fn (fn (fn (fn (fn (fn (fn (fn (fn (fn (fn (fn (fn (fn f0)))))))))))))))))))))))))))))))))))))))))))))))))))))))))))))))))))))))))))))))))))))))))))))))))))))))))))))))))))))))))))))))))))))))))))), rfl, Nat.zero_le _, ?_⟩
      have e0 : used W.recs - used (W.recs.take 0) = used W.recs := by simp [used]
      rw [e0]; exact H11
    · rintro n l w12 ⟨k, y, rfl, hfit, rfl, hk, H12⟩
      obtain ⟨j, rfl⟩ := hfit.open
      refine nR140 ?_
      clear hfit
      refine run_seq ?_
      refine run_region ?_
      refine ops_test (ex_lss rfl rfl) (fun hp85 => ?_) (fun hp85 => ?_)
      · have hkl : k < W.recs.length := by omega
        obtain ⟨Bk, ck, hxk, hrk, hak⟩ := hlst.2 k hkl
        obtain ⟨grr, hgrr⟩ : ∃ x, m.gr = some x := by
          cases hx : m.gr with
          | none => have := hrn hx; omega
          | some x => exact ⟨x, rfl⟩
        have hlk := hlong _ (List.getElem_mem hkl)
        have huk := used_take hkl
        have hud := used_drop W.recs (k + 1)
        refine ops_nil ?_
        refine nR140 ?_
        refine run_seq ?_
        refine run_cond_true rfl ?_
        refine run_skip ?_
        refine run_seq ?_
        refine run_block ?_
        refine run_seq ?_
        refine run_region ?_
        refine ops_val (ex_idx Try.underlying29 ty34 (a := ⟨grr, 0, none⟩) (congrArg (fun A => some (Value.slice A gone m.cr)) (show hd m.gr = some ⟨grr, 0, none⟩ by rw [hgrr]; rfl)) rfl rfl (by omega) (Nat.mul_one _)) ?_
        rw [addz]
        refine ops_val (ex_load ty34 rfl (H12.cell (i := 4) (g := grr) (T := 34) (cs := m.xs ++ m.sr) (o := k) (by rw [← hgrr]; rfl) (by rw [List.getElem?_append_left (lt_of_get hxk)]; exact hxk))) ?_
        refine ops_val (ex_assign rfl) ?_
        refine ops_nil ?_
        refine nR140 ?_
        refine run_mixZ 10 [(true, 0), (true, 1), (true, 2), (true, 3), (true, 4), (true, 5), (true, 6), (true, 7), (true, 8), (true, 9), (false, 10)] H12 [3] mixed (by decide) (by kernel_rfl) ?_
        rintro w13 hw13
        have H13 := Hp.drew H12; rw [← hw13] at H13
        refine mixz_p rfl ?_
        refine mix1_val (fun wz hz => ex_move rfl) ?_
        refine mixz_p rfl ?_
        refine mix1_val (fun wz hz => ex_nilCheck rfl) ?_
        refine mixz_p rfl ?_
        refine mix1_val (fun wz hz => ex_fieldAddr fl58_7 rfl) ?_
        refine mixz_p rfl ?_
        refine mix1_val (fun wz hz => ex_load ty3 rfl (hz.cell (i := 0) rfl rfl)) ?_
        refine nZ140 ?_
        refine mixz_p rfl ?_
        refine mix1_val (fun wz hz => ex_move rfl) ?_
        refine mixz_p rfl ?_
        refine mix1_val (fun wz hz => ex_len_slice Try.underlying34 rfl) ?_
        refine mixz_p rfl ?_
        refine mix1_call (fun wz hz => ex_call gf31 rfl) (fun wz hz => weight_any W.recs[k].length wz (by omega)) ?_
        refine mixz_p rfl ?_
        refine mix1_val (fun wz hz => ex_sub rfl rfl ((IntWalk.i64_in _ (by have := wgt_le hlk; omega)).trans (show (((used W.recs - used (W.recs.take k) : Nat) : Int) - (wgt W.recs[k].length : Int)) = ((used W.recs - used (W.recs.take (k + 1)) : Nat) : Int) by omega))) ?_
        refine nZ140 ?_
        refine mixz_p rfl ?_
        refine mix1_val (fun wz hz => ex_nilCheck rfl) ?_
        refine mixz_p rfl ?_
        refine mix1_val (fun wz hz => ex_fieldAddr fl58_7 rfl) ?_
        refine mixz_o rfl ?_
        refine ops_store1 ty3 H13 3 rfl rfl rfl rfl (by simp) rfl ?_
        intro w14 H14
        refine ops_nil ?_
        refine ⟨fun hne => absurd rfl hne, ?_⟩
        refine nZ140 ?_
        refine mixz_nil ?_
        refine nR140 ?_
        refine run_nil (blk_normal ?_)
        refine run_region ?_
        refine ops_val (ex_add rfl rfl (IntWalk.i64_in _ (by omega))) ?_
        refine ops_val (ex_move rfl) ?_
        refine ops_nil ?_
        refine nR140 ?_
        refine run_nil (rnd_normal ?_)
        exact ⟨gone - (k + 1), by omega, k + 1, _, rfl, (fs (fs (fn (fn (fs (fn (fn (fn (fn (fn (fn (fn (fn (fn (fn (fn (fn (fn (fn (fn (fn (fn (fn (fn (fn (fn (fn (fn (fn (fn (fn (fn (fn (fn (fn (fn (fn (fn (fn (fn (fn (fn (fn (fn (fn (fn (fn (fn (fn (fn (fn (fn (fn (fn (fn (fn (fn (fn (fn (fn (fn (fn (fn (fn (fn (fn (fn (fn (fn (fn (fn (fn (fn (fn (fn (fn (fn (fn (fn (fn (fn (fn (fs (fs (fs (fn (fn (fn (fn (fn (fn (fn (fn (fn (fn (fn (fn (fn (fn (fn (fn (fn (fn (fn (fn (fn (fn (fn (fn (fn (fn (fn (fn (fn (fn (fn (fn (fn (fn (fn (fn (fn (fn (fn (fn (fn (fn (fn (fn (fn (fn (fn (fn (fn (fn (fn (fn (fn (fn (fn f0)))))))))))))))))))))))))))))))))))))))))))))))))))))))))))))))))))))))))))))))))))))))))))))))))))))))))))))))))))))))))))))))))))))))))))), rfl, by omega, H14⟩
      · have hkg : k = gone := by omega
        subst hkg
        refine ops_nil ?_
        refine nR140 ?_
        refine run_seq ?_
        refine run_cond_false rfl ?_
        refine run_exit ?_
        refine rnd_exit ?_
        refine blk_exit ?_
        refine run_seq ?_
        refine run_region ?_
        refine ops_val (ex_move rfl) ?_
        refine ops_val (ex_move rfl) ?_
        refine ops_val (ex_move rfl) ?_
        refine ops_val (ex_move rfl) ?_
        refine nO140 ?_
        refine ops_val (ex_nilCheck rfl) ?_
        refine ops_val (ex_fieldAddr fl58_3 rfl) ?_
        refine ops_val (ex_load ty3 rfl (H12.cell (i := 3) rfl rfl)) ?_
        refine ops_val (ex_move rfl) ?_
        refine nO140 ?_
        refine ops_val (ex_add rfl rfl ((IntWalk.i64_in _ (by omega)).trans (show ((W.first : Int) + (k : Int)) = ((W.first + k : Nat) : Int) by omega))) ?_
        refine ops_val (ex_nilCheck rfl) ?_
        refine ops_val (ex_fieldAddr fl58_2 rfl) ?_
        refine ops_store1 ty56 H12 3 rfl rfl rfl rfl (by simp) rfl ?_
        intro w13 H13
        refine ops_val (ex_nilCheck rfl) ?_
        refine nO140 ?_
        refine ops_val (ex_fieldAddr fl58_3 rfl) ?_
        refine ops_store1 ty3 H13 3 rfl rfl rfl rfl (by simp) rfl ?_
        intro w14 H14
        refine ops_nil ?_
        refine nR140 ?_
        refine run_seq ?_
        refine run_mixS 21 [(true, 0), (true, 1), (true, 2), (true, 3), (true, 4), (true, 6), (true, 9), (true, 10), (true, 11), (true, 12), (true, 13), (true, 14), (false, 5), (true, 7), (false, 8), (false, 15), (true, 16), (true, 17), (false, 18), (true, 19), (true, 20), (false, 21)] (fun wz => ∃ v, Hp w0 wz (bl (wRows m D W)) [(some m.gv, 58, [.pointer (some ⟨m.gd, 0, none⟩), .bool W.dead, .int .u64 ((W.turn + 1 : Nat) : Int), .int .i64 ((W.first + k : Nat) : Int), v, .slice (hd m.gp) W.places.length m.cp, .int .i64 (W.fin : Int), .int .i64 ((used W.recs - used (W.recs.take k) : Nat) : Int), .int .i64 (W.told : Int)])]) mixed (by kernel_rfl) ?_
        rintro w15 hw15
        have H15 := Hp.drew H14; rw [← hw15] at H15
        refine ⟨⟨_, H15.pick [3] (by decide)⟩, ?_⟩
        refine mixz_p rfl ?_
        refine mix1_val (fun wz hz => ex_move rfl) ?_
        refine mixz_p rfl ?_
        refine mix1_val (fun wz hz => ex_move rfl) ?_
        refine mixz_p rfl ?_
        refine mix1_val (fun wz hz => ex_move rfl) ?_
        refine mixz_p rfl ?_
        refine mix1_val (fun wz hz => ex_nilCheck rfl) ?_
        refine nZ140 ?_
        refine mixz_p rfl ?_
        refine mix1_val (fun wz hz => ex_fieldAddr fl58_4 rfl) ?_
        refine mixz_p rfl ?_
        refine mix1_val (fun wz hz => ex_move rfl) ?_
        refine mixz_p rfl ?_
        refine mix1_val (fun wz hz => ex_move rfl) ?_
        refine mixz_p rfl ?_
        refine mix1_val (fun wz hz => ex_nilCheck rfl) ?_
        refine nZ140 ?_
        refine mixz_p rfl ?_
        refine mix1_val (fun wz hz => ex_fieldAddr fl58_5 rfl) ?_
        refine mixz_p rfl ?_
        refine mix1_val (fun wz hz => ex_load ty22 rfl (by obtain ⟨v, hz⟩ := hz; exact hz.cell (i := 0) rfl rfl)) ?_
        refine mixz_p rfl ?_
        refine mix1_val (fun wz hz => ex_move rfl) ?_
        refine mixz_p rfl ?_
        refine mix1_val (fun wz hz => ex_cutLo Try.underlying22 ty3 rfl rfl ((by omega))) ?_
        refine nZ140 ?_
        refine mixz_o rfl ?_
        refine ops_val (ex_load ty29 rfl (H15.cell (i := 3) rfl rfl)) ?_
        refine ops_nil ?_
        refine ⟨fun hne => ⟨_, H15.pick [3] (by decide)⟩, ?_⟩
        refine nZ140 ?_
        refine mixz_p rfl ?_
        refine mix1_val (fun wz hz => ex_cutLo Try.underlying29 ty34 rfl rfl ((by omega))) ?_
        refine mixz_o rfl ?_
        have hxr : Rd _ (cutAddr (hd m.gr) k m.cr 1) (W.recs.length - k) 1 (m.xs.drop k) := (rd_cut (H15.rd (i := 4) (xs := m.xs) (sp := m.sr) rfl (by rw [hlst.1, Nat.mul_one]) (by decide)) (by omega) hrc)
        refine ops_call (ex_call gf54 rfl) (cloneBS_any (cutAddr (hd m.gr) k m.cr 1) (W.recs.length - k) (m.cr - k) (m.xs.drop k) _ hxr (all_drop hlst.ones k) (by omega)) ?_
        rintro r w16 ⟨g7, c7, s7, hr7, hc7, hs7, hn7, Hc⟩
        rw [hr7]
        have H16 := H15.call0 Hc
        refine ops_nil ?_
        refine ⟨fun hne => ⟨_, H16.pick [3] (by decide)⟩, ?_⟩
        refine nZ140 ?_
        refine mixz_o rfl ?_
        have hpr : Rd _ (cutAddr (hd m.gp) k m.cp 1) (W.places.length - k) 1 ((i64n W.places).drop k) := (rd_cut (H16.rd (i := 5) (xs := i64n W.places) (sp := m.sq) rfl (by rw [i64n_len, Nat.mul_one]) (by decide)) (by omega) hpc)
        refine ops_call (ex_call gf64 rfl) (cloneI_any (cutAddr (hd m.gp) k m.cp 1) (W.places.length - k) (m.cp - k) ((i64n W.places).drop k) _ hpr (all_drop (i64n_one _) k) (by omega)) ?_
        rintro r w17 ⟨g8, c8, s8, hr8, hc8, hs8, hn8, Hc⟩
        rw [hr8]
        have H17 := H16.call0 Hc
        refine ops_nil ?_
        refine ⟨fun hne => ⟨_, H17.pick [3] (by decide)⟩, ?_⟩
        refine nZ140 ?_
        refine mixz_p rfl ?_
        refine mix1_val (fun wz hz => ex_nilCheck rfl) ?_
        refine mixz_p rfl ?_
        refine mix1_val (fun wz hz => ex_fieldAddr fl58_4 rfl) ?_
        refine mixz_o rfl ?_
        refine ops_store1 ty29 H17 3 rfl rfl rfl rfl (by simp) rfl ?_
        intro w18 H18
        refine ops_nil ?_
        refine ⟨fun hne => ⟨_, H18.pick [3] (by decide)⟩, ?_⟩
        refine nZ140 ?_
        refine mixz_p rfl ?_
        refine mix1_val (fun wz hz => ex_nilCheck rfl) ?_
        refine mixz_p rfl ?_
        refine mix1_val (fun wz hz => ex_fieldAddr fl58_5 rfl) ?_
        refine mixz_o rfl ?_
        refine ops_store1 ty22 H18 3 rfl rfl rfl rfl (by simp) rfl ?_
        intro w19 H19
        refine ops_nil ?_
        refine ⟨fun hne => absurd rfl hne, ?_⟩
        refine nZ140 ?_
        refine mixz_nil ?_
        refine nR140 ?_
        refine run_region ?_
        refine ops_val (ex_move rfl) ?_
        refine ops_val (ex_move rfl) ?_
        refine ops_val (ex_nilCheck rfl) ?_
        refine ops_val (ex_fieldAddr fl58_4 rfl) ?_
        refine nO140 ?_
        refine ops_val (ex_load ty29 rfl (H19.cell (i := 3) rfl rfl)) ?_
        refine ops_val (ex_len_slice Try.underlying29 rfl) ?_
        refine ops_val (ex_nilCheck rfl) ?_
        refine ops_val (ex_fieldAddr fl58_8 rfl) ?_
        refine nO140 ?_
        refine ops_store1 ty3 H19 3 rfl rfl rfl rfl (by simp) rfl ?_
        intro w20 H20
        refine ops_nil ?_
        refine nR140 ?_
        refine run_nil ?_
        refine finP_end0 rfl ?_
        have hu2 : used W.recs - used (W.recs.take k) = used (W.recs.drop k) := by have := used_drop W.recs k; omega
        have hle : used (W.recs.drop k) ≤ used W.recs := by have := used_drop W.recs k; omega
        rw [hu2] at H20
        have hxl := hlst.1
        have H9 : Hp w0 w20 (bl (wRows m D W)) (wRows { m with gw := gw3, cw := cw3, sp := sp3, gr := g7, cr := c7, xs := m.xs.drop k, sr := s7, gp := g8, cp := c8, sq := s8 } (tellW D W k).1.sync.1 (W.tell k)) := by
          have hz := H20.pick [0, 1, 2, 3, 7, 8] (by decide)
          have e1 : (W.tell k).recs.length = W.recs.length - k := by simp [Wl.tell]
          have e2 : (W.tell k).places.length = W.places.length - k := by simp [Wl.tell]
          have e3 : i64n (W.tell k).places = (i64n W.places).drop k := by simp [Wl.tell, i64n, List.map_drop]
          have e4 : (W.tell k).told = W.recs.length - k := by simp [Wl.tell]
          show Hp w0 w20 _ (dRows _ _ _ _ _ _ ++ lRows _ _)
          unfold lRows wcl
          rw [e1, e2, e3, e4]
          exact hz
        refine ⟨⟨hcd1, hcd2, rfl⟩, { m with gw := gw3, cw := cw3, sp := sp3, gr := g7, cr := c7, xs := m.xs.drop k, sr := s7, gp := g8, cp := c8, sq := s8 }, rfl, rfl, rfl, XsOk.drop _ _ _, ?_, H9⟩
        refine ⟨hD3, ?_, by simp [Wl.tell]; omega, hs7, hn7, by simp [Wl.tell, hpl], by simp [Wl.tell]; omega, by simpa [Wl.tell, i64n, List.map_drop] using hs8, hn8, by simp [Wl.tell]; omega, fun r hr => hlong r (List.mem_of_mem_drop hr), by rw [hk2]; exact hsize, by rw [hk2]; exact hfin, fun p hp => hplb p (List.mem_of_mem_drop hp), by show W.first + k ≤ _; omega, by show W.turn + 1 ≤ _; omega, by show used (W.recs.drop k) ≤ _; omega, by simp [Wl.tell]; omega⟩
        exact Lsw.less ((hlst.drop k).to H20) (fun x hx => bl_pick (is := [0, 1, 2, 3, 7, 8]) H20 x hx)
  · have hst : W.start gone = W.fin := by unfold Wl.start; rw [List.getD_eq_getElem?_getD, List.getElem?_eq_none (by omega)]; rfl
    refine ops_nil ?_
    refine nR140 ?_
    refine run_cond_false rfl ?_
    refine run_skip ?_
    refine run_seq ?_
    refine run_region ?_
    refine ops_val (ex_move rfl) ?_
    refine ops_val (ex_move rfl) ?_
    refine ops_call (ex_call gf63 rfl) (lay_any gb 0 64 64 (W.turn + 1) _ _ (H1.pick [6] (by decide)).here (by decide) (by simp) (by omega)) ?_
    rintro r w2 Hc
    have H2 := (H1.callr [6] rfl Hc).pick [0, 1, 2, 3, 4, 5, 7] (by decide)
    refine ops_nil ?_
    refine nR140 ?_
    refine run_seq ?_
    refine run_mixZ 9 [(true, 0), (true, 1), (true, 2), (true, 3), (true, 4), (true, 5), (true, 6), (true, 7), (true, 8), (false, 9)] H2 [3] mixed (by decide) (by kernel_rfl) ?_
    rintro w3 hw3
    have H3 := Hp.drew H2; rw [← hw3] at H3
    refine mixz_p rfl ?_
    refine mix1_val (fun wz hz => ex_move rfl) ?_
    refine mixz_p rfl ?_
    refine mix1_val (fun wz hz => ex_cutLo Try.underlying34 ty5 rfl rfl ((by omega))) ?_
    refine mixz_p rfl ?_
    refine mix1_val (fun wz hz => ex_move rfl) ?_
    refine mixz_p rfl ?_
    refine mix1_val (fun wz hz => ex_nilCheck rfl) ?_
    refine nZ140 ?_
    refine mixz_p rfl ?_
    refine mix1_val (fun wz hz => ex_fieldAddr fl58_3 rfl) ?_
    refine mixz_p rfl ?_
    refine mix1_val (fun wz hz => ex_load ty3 rfl (hz.cell (i := 0) rfl rfl)) ?_
    refine mixz_p rfl ?_
    refine mix1_val (fun wz hz => ex_move rfl) ?_
    refine mixz_p rfl ?_
    refine mix1_val (fun wz hz => ex_add rfl rfl ((IntWalk.i64_in _ (by omega)).trans (show ((W.first : Int) + (gone : Int)) = ((W.first + gone : Nat) : Int) by omega))) ?_
    refine nZ140 ?_
    refine mixz_p rfl ?_
    refine mix1_val (fun wz hz => ex_conv Try.underlying56 Try.underlying3 rfl (IntWalk.u64_in _ (by omega))) ?_
    refine mixz_o rfl ?_
    refine ops_call (ex_call gf63 rfl) (lay_any gb 8 56 56 (W.first + gone) _ _ (H3.pick [6] (by decide)).here (by decide) (by simp [putAt, u8s_length, be8_len]) (by omega)) ?_
    rintro r w4 Hc
    have H4 := (H3.callr [6] rfl Hc).pick [0, 1, 2, 3, 4, 5, 7] (by decide)
    refine ops_nil ?_
    refine ⟨fun hne => absurd rfl hne, ?_⟩
    refine nZ140 ?_
    refine mixz_nil ?_
    refine nR140 ?_
    refine run_seq ?_
    refine run_mixZ 5 [(true, 0), (true, 1), (true, 2), (false, 3), (true, 4), (false, 5)] H4 [3] mixed (by decide) (by kernel_rfl) ?_
    rintro w5 hw5
    have H5 := Hp.drew H4; rw [← hw5] at H5
    refine mixz_p rfl ?_
    refine mix1_val (fun wz hz => ex_move rfl) ?_
    refine mixz_p rfl ?_
    refine mix1_val (fun wz hz => ex_cutLo Try.underlying34 ty5 rfl rfl ((by omega))) ?_
    refine mixz_p rfl ?_
    refine mix1_val (fun wz hz => ex_move rfl) ?_
    refine mixz_o rfl ?_
    refine ops_call_val (ex_call gf15 rfl) (next_any m.gv W.first W.recs.length m.cr (hd m.gr) _ (H5.cell (i := 3) rfl rfl) (H5.cell (i := 3) rfl rfl) (by omega)) ?_
    intro w6 Hc
    have H6 := (H5.call0 Hc).pick [0, 1, 2, 3, 4, 5, 6] (by decide)
    refine ops_nil ?_
    refine ⟨fun hne => H6.pick [3] (by decide), ?_⟩
    refine nZ140 ?_
    refine mixz_p rfl ?_
    refine mix1_val (fun wz hz => ex_conv Try.underlying56 Try.underlying3 rfl (IntWalk.u64_in _ (by omega))) ?_
    refine mixz_o rfl ?_
    refine ops_call (ex_call gf63 rfl) (lay_any gb 16 48 48 (W.first + W.recs.length) _ _ (H6.pick [6] (by decide)).here (by decide) (by simp [putAt, u8s_length, be8_len]) (by omega)) ?_
    rintro r w7 Hc
    have H7 := (H6.callr [6] rfl Hc).pick [0, 1, 2, 3, 4, 5, 7] (by decide)
    refine ops_nil ?_
    refine ⟨fun hne => absurd rfl hne, ?_⟩
    refine nZ140 ?_
    refine mixz_nil ?_
    refine nR140 ?_
    refine run_seq ?_
    refine run_region ?_
    refine ops_val (ex_move rfl) ?_
    refine ops_val (ex_cutLo Try.underlying34 ty5 rfl rfl ((by omega))) ?_
    refine ops_val (ex_move rfl) ?_
    refine ops_val (ex_conv Try.underlying56 Try.underlying3 rfl (IntWalk.u64_in _ (by omega))) ?_
    refine nO140 ?_
    refine ops_call (ex_call gf63 rfl) (lay_any gb 24 40 40 (W.fin) _ _ (H7.pick [6] (by decide)).here (by decide) (by simp [putAt, u8s_length, be8_len]) (by omega)) ?_
    rintro r w8 Hc
    have H8 := (H7.callr [6] rfl Hc).pick [0, 1, 2, 3, 4, 5, 7] (by decide)
    refine ops_nil ?_
    refine nR140 ?_
    refine run_seq ?_
    refine run_region ?_
    refine ops_val (ex_move rfl) ?_
    refine ops_val (ex_cutLo Try.underlying34 ty5 rfl rfl ((by omega))) ?_
    refine ops_val (ex_move rfl) ?_
    refine ops_call (ex_call gf63 rfl) (lay_any gb 56 8 8 (W.turn + 1) _ _ (H8.pick [6] (by decide)).here (by decide) (by simp [putAt, u8s_length, be8_len]) (by omega)) ?_
    rintro r w9 Hc
    have H9 := (H8.callr [6] rfl Hc).pick [0, 1, 2, 3, 4, 5, 7] (by decide)
    refine ops_nil ?_
    refine nR140 ?_
    refine run_seq ?_
    refine run_region ?_
    refine ops_val (ex_move rfl) ?_
    refine ops_val (ex_nilCheck rfl) ?_
    refine ops_val (ex_fieldAddr fl58_0 rfl) ?_
    refine ops_val (ex_load ty27 rfl (H9.cell (i := 3) rfl rfl)) ?_
    refine nO140 ?_
    refine ops_val (ex_move rfl) ?_
    refine ops_val (ex_rem rfl rfl (by omega) (tmodN (W.turn + 1) 2)) ?_
    refine ops_val (ex_conv Try.underlying3 Try.underlying56 rfl (IntWalk.i64_in _ (by omega))) ?_
    refine ops_val (ex_move rfl) ?_
    refine nO140 ?_
    rw [hdr_cells, ← hst] at H9
    change Hp _ _ _ [_, _, _, _, _, _, (some gb, 5, u8s (W.head gone))] at H9
    have hwr := write_any m.gd m.gk m.gw m.cw m.sp D _ (H9.pick [0, 1, 2] (by decide)).here hD (((W.turn + 1) % 2 : Nat) : Int) (some ⟨gb, 0, none⟩) (W.head gone) 64 (H9.rd (i := 6) (o := some gb) (xs := u8s (W.head gone)) (sp := []) (by rw [List.append_nil]; rfl) (u8s_length1 _) (by decide)) (fun a hx hy => by cases hx; exact row_not H9 (i := 6) rfl (is := [0, 1, 2]) (by decide) hy) (by omega)
    rw [show (W.head gone).length = 64 from hdr_len _ _ _ _] at hwr
    refine ops_call (ex_call gf37 rfl) hwr ?_
    rintro r w10 ⟨hr2, gw2, cw2, sp2, hD2, Hd⟩
    rw [hr2]
    have H10 := (H9.callr [0, 1, 2] rfl Hd).pick [7, 8, 9, 3, 4, 5, 6] (by decide)
    have hb1 := write_bd D (((W.turn + 1) % 2 : Nat) : Int) (W.head gone)
    refine ops_callP (ex_call gf36 rfl) (must_any _ _) ?_ ?_
    · rintro ch wz ⟨hcd, rfl, rfl⟩
      have H9 := H10.pick [0, 1, 2, 3, 4, 5] (by decide)
      refine ⟨rfl, _, .inl ⟨hcd, rfl⟩, { m with gw := gw2, cw := cw2, sp := sp2 }, rfl, rfl, rfl, XsOk.refl _ _, ?_, H9⟩
      exact { h with d := hD2, lst := (hlst.to H10).less (fun x hx => bl_pick (is := [0, 1, 2, 3, 4, 5]) H10 x hx), size := by rw [show (tellW D W gone).1.kept.length = _ from hb1.2]; exact hsize, fin := by rw [show (tellW D W gone).1.kept.length = _ from hb1.2]; exact hfin }
    rintro r wz ⟨hcd1, rfl⟩
    refine ops_nil ?_
    refine nR140 ?_
    refine run_seq ?_
    refine run_region ?_
    refine ops_val (ex_move rfl) ?_
    refine ops_val (ex_nilCheck rfl) ?_
    refine ops_val (ex_fieldAddr fl58_0 rfl) ?_
    refine ops_val (ex_load ty27 rfl (H10.cell (i := 3) rfl rfl)) ?_
    refine nO140 ?_
    refine ops_call (ex_call gf43 rfl) (sync_any m.gd m.gk gw2 cw2 sp2 (tellW D W gone).1 _ (H10.pick [0, 1, 2] (by decide)).here hD2 (by have := hb1.1; show (Dk.write _ _ _).1.wait.length ≤ _; omega)) ?_
    rintro r w11 ⟨hr3, gw3, cw3, sp3, hD3, Hd⟩
    rw [hr3]
    have H11 := (H10.callr [0, 1, 2] rfl Hd).pick [7, 8, 9, 3, 4, 5, 6] (by decide)
    have hb2 := sync_bd (tellW D W gone).1
    have hk2 : (tellW D W gone).1.sync.1.kept.length = D.kept.length := by rw [hb2.2]; exact hb1.2
    refine ops_callP (ex_call gf36 rfl) (must_any _ _) ?_ ?_
    · rintro ch wz ⟨hcd, rfl, rfl⟩
      have H9 := H11.pick [0, 1, 2, 3, 4, 5] (by decide)
      refine ⟨rfl, _, .inr ⟨hcd1, hcd, rfl⟩, { m with gw := gw3, cw := cw3, sp := sp3 }, rfl, rfl, rfl, XsOk.refl _ _, ?_, H9⟩
      exact { h with d := hD3, lst := (hlst.to H11).less (fun x hx => bl_pick (is := [0, 1, 2, 3, 4, 5]) H11 x hx), size := by rw [hk2]; exact hsize, fin := by rw [hk2]; exact hfin }
    rintro r wz ⟨hcd2, rfl⟩
    refine ops_nil ?_
    refine nR140 ?_
    refine run_seq ?_
    refine run_seq ?_
    refine run_region ?_
    refine ops_val (ex_move rfl) ?_
    refine ops_val (ex_nilCheck rfl) ?_
    refine ops_val (ex_fieldAddr fl58_4 rfl) ?_
    refine ops_val (ex_load ty29 rfl (H11.cell (i := 3) rfl rfl)) ?_
    refine nO140 ?_
    refine ops_val (ex_move rfl) ?_
    refine ops_val (ex_cutHi Try.underlying29 ty34 rfl rfl ((by omega))) ?_
    refine ops_val (ex_len_slice Try.underlying29 rfl) ?_
    refine ops_val (ex_move rfl) ?_
    refine ops_nil ?_
    refine nR140 ?_
    refine run_block ?_
    refine run_loop (fun n l w => ∃ (k : Nat) (y : Int), gone - k = n ∧ Fits [some (.pointer (some ⟨m.gv, 0, none⟩)), some (.int .i64 (gone : Int)), none, none, some (.int .u64 ((W.turn + 1 : Nat) : Int)), none, none, none, none, none, none, none, none, none, none, none, none, none, none, none, none, none, none, none, none, none, none, none, none, none, none, none, none, none, none, none, none, none, none, none, none, none, none, none, none, none, none, none, none, none, none, none, none, none, none, none, none, none, none, none, none, none, none, none, none, none, none, none, none, none, none, none, none, none, none, none, none, none, none, none, none, none, some (.slice (hd m.gr) gone m.cr), some (.int .i64 (gone : Int)), some (.int .i64 y), none, none, none, none, none, none, none, none, none, none, none, none, none, none, none, none, none, none, none, none, none, none, none, none, none, none, none, none, none, none, none, none, none, none, none, none, none, none, none, none, none, none, none, none, none, none, none, none, none, none, none, none, none, none, none] l ∧ y = k ∧ k ≤ gone ∧ Hp w0 w (bl (wRows m D W)) (dRows m.gd m.gk gw3 cw3 sp3 (tellW D W gone).1.sync.1 ++ [(some m.gv, 58, [.pointer (some ⟨m.gd, 0, none⟩), .bool W.dead, .int .u64 (W.turn : Int), .int .i64 (W.first : Int), .slice (hd m.gr) W.recs.length m.cr, .slice (hd m.gp) W.places.length m.cp, .int .i64 (W.fin : Int), .int .i64 ((used W.recs - used (W.recs.take k) : Nat) : Int), .int .i64 (W.told : Int)]), (m.gr, 34, m.xs ++ m.sr), (m.gp, 3, i64n W.places ++ m.sq), (some gb, 5, u8s (W.head gone))])) (gone) ?_ ?_
    · refine ⟨0, _, rfl, (fs (fs (fn (fn (fs (fn (fn (fn (fn (fn (fn (fn (fn (fn (fn (fn (fn (fn (fn (fn (fn (fn (fn (fn (fn (fn (fn (fn (fn (fn (fn (fn (fn (fn (fn (fn (fn (fn (fn (fn (fn (fn (fn (fn (fn (fn (fn (fn (fn (fn (fn (fn (fn (fn (fn (fn (fn (fn (fn (fn (fn (fn (fn (fn (fn (fn (fn (fn (fn (fn (fn (fn (fn (fn (fn (fn (fn (fn (fn (fn (fn (fn (fs (fs (fs (fn (fn (fn (fn (fn (fn (fn (fn (fn (fn (fn (fn (fn (fn (fn (fn (fn (fn (fn (fn (fn (fn (fn (fn (fn (fn (fn (fn (fn (fn (fn (fn (fn (fn (fn (fn (fn (fn (fn (fn (fn (fn (fn (fn (fn (fn (fn (fn (fn (fn (fn (fn (fn (fn (fn f0)))))))))))))))))))))))))))))))))))))))))))))))))))))))))))))))))))))))))))))))))))))))))))))))))))))))))))))))))))))))))))))))))))))))))))), rfl, Nat.zero_le _, ?_⟩
      have e0 : used W.recs - used (W.recs.take 0) = used W.recs := by simp [used]
      rw [e0]; exact H11
    · rintro n l w12 ⟨k, y, rfl, hfit, rfl, hk, H12⟩
      obtain ⟨j, rfl⟩ := hfit.open
      refine nR140 ?_
      clear hfit
      refine run_seq ?_
      refine run_region ?_
      refine ops_test (ex_lss rfl rfl) (fun hp85 => ?_) (fun hp85 => ?_)
      · have hkl : k < W.recs.length := by omega
        obtain ⟨Bk, ck, hxk, hrk, hak⟩ := hlst.2 k hkl
        obtain ⟨grr, hgrr⟩ : ∃ x, m.gr = some x := by
          cases hx : m.gr with
          | none => have := hrn hx; omega
          | some x => exact ⟨x, rfl⟩
        have hlk := hlong _ (List.getElem_mem hkl)
        have huk := used_take hkl
        have hud := used_drop W.recs (k + 1)
        refine ops_nil ?_
        refine nR140 ?_
        refine run_seq ?_
        refine run_cond_true rfl ?_
        refine run_skip ?_
        refine run_seq ?_
        refine run_block ?_
        refine run_seq ?_
        refine run_region ?_
        refine ops_val (ex_idx Try.underlying29 ty34 (a := ⟨grr, 0, none⟩) (congrArg (fun A => some (Value.slice A gone m.cr)) (show hd m.gr = some ⟨grr, 0, none⟩ by rw [hgrr]; rfl)) rfl rfl (by omega) (Nat.mul_one _)) ?_
        rw [addz]
        refine ops_val (ex_load ty34 rfl (H12.cell (i := 4) (g := grr) (T := 34) (cs := m.xs ++ m.sr) (o := k) (by rw [← hgrr]; rfl) (by rw [List.getElem?_append_left (lt_of_get hxk)]; exact hxk))) ?_
        refine ops_val (ex_assign rfl) ?_
        refine ops_nil ?_
        refine nR140 ?_
        refine run_mixZ 10 [(true, 0), (true, 1), (true, 2), (true, 3), (true, 4), (true, 5), (true, 6), (true, 7), (true, 8), (true, 9), (false, 10)] H12 [3] mixed (by decide) (by kernel_rfl) ?_
        rintro w13 hw13
        have H13 := Hp.drew H12; rw [← hw13] at H13
        refine mixz_p rfl ?_
        refine mix1_val (fun wz hz => ex_move rfl) ?_
        refine mixz_p rfl ?_
        refine mix1_val (fun wz hz => ex_nilCheck rfl) ?_
        refine mixz_p rfl ?_
        refine mix1_val (fun wz hz => ex_fieldAddr fl58_7 rfl) ?_
        refine mixz_p rfl ?_
        refine mix1_val (fun wz hz => ex_load ty3 rfl (hz.cell (i := 0) rfl rfl)) ?_
        refine nZ140 ?_
        refine mixz_p rfl ?_
        refine mix1_val (fun wz hz => ex_move rfl) ?_
        refine mixz_p rfl ?_
        refine mix1_val (fun wz hz => ex_len_slice Try.underlying34 rfl) ?_
        refine mixz_p rfl ?_
        refine mix1_call (fun wz hz => ex_call gf31 rfl) (fun wz hz => weight_any W.recs[k].length wz (by omega)) ?_
        refine mixz_p rfl ?_
        refine mix1_val (fun wz hz => ex_sub rfl rfl ((IntWalk.i64_in _ (by have := wgt_le hlk; omega)).trans (show (((used W.recs - used (W.recs.take k) : Nat) : Int) - (wgt W.recs[k].length : Int)) = ((used W.recs - used (W.recs.take (k + 1)) : Nat) : Int) by omega))) ?_
        refine nZ140 ?_
        refine mixz_p rfl ?_
        refine mix1_val (fun wz hz => ex_nilCheck rfl) ?_
        refine mixz_p rfl ?_
        refine mix1_val (fun wz hz => ex_fieldAddr fl58_7 rfl) ?_
        refine mixz_o rfl ?_
        refine ops_store1 ty3 H13 3 rfl rfl rfl rfl (by simp) rfl ?_
        intro w14 H14
        refine ops_nil ?_
        refine ⟨fun hne => absurd rfl hne, ?_⟩
        refine nZ140 ?_
        refine mixz_nil ?_
        refine nR140 ?_
        refine run_nil (blk_normal ?_)
        refine run_region ?_
        refine ops_val (ex_add rfl rfl (IntWalk.i64_in _ (by omega))) ?_
        refine ops_val (ex_move rfl) ?_
        refine ops_nil ?_
        refine nR140 ?_
        refine run_nil (rnd_normal ?_)
        exact ⟨gone - (k + 1), by omega, k + 1, _, rfl, (fs (fs (fn (fn (fs (fn (fn (fn (fn (fn (fn (fn (fn (fn (fn (fn (fn (fn (fn (fn (fn (fn (fn (fn (fn (fn (fn (fn (fn (fn (fn (fn (fn (fn (fn (fn (fn (fn (fn (fn (fn (fn (fn (fn (fn (fn (fn (fn (fn (fn (fn (fn (fn (fn (fn (fn (fn (fn (fn (fn (fn (fn (fn (fn (fn (fn (fn (fn (fn (fn (fn (fn (fn (fn (fn (fn (fn (fn (fn (fn (fn (fn (fs (fs (fs (fn (fn (fn (fn (fn (fn (fn (fn (fn (fn (fn (fn (fn (fn (fn (fn (fn (fn (fn (fn (fn (fn (fn (fn (fn (fn (fn (fn (fn (fn (fn (fn (fn (fn (fn (fn (fn (fn (fn (fn (fn (fn (fn (fn (fn (fn (fn (fn (fn (fn (fn (fn (fn (fn (fn f0)))))))))))))))))))))))))))))))))))))))))))))))))))))))))))))))))))))))))))))))))))))))))))))))))))))))))))))))))))))))))))))))))))))))))))), rfl, by omega, H14⟩
      · have hkg : k = gone := by omega
        subst hkg
        refine ops_nil ?_
        refine nR140 ?_
        refine run_seq ?_
        refine run_cond_false rfl ?_
        refine run_exit ?_
        refine rnd_exit ?_
        refine blk_exit ?_
        refine run_seq ?_
        refine run_region ?_
        refine ops_val (ex_move rfl) ?_
        refine ops_val (ex_move rfl) ?_
        refine ops_val (ex_move rfl) ?_
        refine ops_val (ex_move rfl) ?_
        refine nO140 ?_
        refine ops_val (ex_nilCheck rfl) ?_
        refine ops_val (ex_fieldAddr fl58_3 rfl) ?_
        refine ops_val (ex_load ty3 rfl (H12.cell (i := 3) rfl rfl)) ?_
        refine ops_val (ex_move rfl) ?_
        refine nO140 ?_
        refine ops_val (ex_add rfl rfl ((IntWalk.i64_in _ (by omega)).trans (show ((W.first : Int) + (k : Int)) = ((W.first + k : Nat) : Int) by omega))) ?_
        refine ops_val (ex_nilCheck rfl) ?_
        refine ops_val (ex_fieldAddr fl58_2 rfl) ?_
        refine ops_store1 ty56 H12 3 rfl rfl rfl rfl (by simp) rfl ?_
        intro w13 H13
        refine ops_val (ex_nilCheck rfl) ?_
        refine nO140 ?_
        refine ops_val (ex_fieldAddr fl58_3 rfl) ?_
        refine ops_store1 ty3 H13 3 rfl rfl rfl rfl (by simp) rfl ?_
        intro w14 H14
        refine ops_nil ?_
        refine nR140 ?_
        refine run_seq ?_
        refine run_mixS 21 [(true, 0), (true, 1), (true, 2), (true, 3), (true, 4), (true, 6), (true, 9), (true, 10), (true, 11), (true, 12), (true, 13), (true, 14), (false, 5), (true, 7), (false, 8), (false, 15), (true, 16), (true, 17), (false, 18), (true, 19), (true, 20), (false, 21)] (fun wz => ∃ v, Hp w0 wz (bl (wRows m D W)) [(some m.gv, 58, [.pointer (some ⟨m.gd, 0, none⟩), .bool W.dead, .int .u64 ((W.turn + 1 : Nat) : Int), .int .i64 ((W.first + k : Nat) : Int), v, .slice (hd m.gp) W.places.length m.cp, .int .i64 (W.fin : Int), .int .i64 ((used W.recs - used (W.recs.take k) : Nat) : Int), .int .i64 (W.told : Int)])]) mixed (by kernel_rfl) ?_
        rintro w15 hw15
        have H15 := Hp.drew H14; rw [← hw15] at H15
        refine ⟨⟨_, H15.pick [3] (by decide)⟩, ?_⟩
        refine mixz_p rfl ?_
        refine mix1_val (fun wz hz => ex_move rfl) ?_
        refine mixz_p rfl ?_
        refine mix1_val (fun wz hz => ex_move rfl) ?_
        refine mixz_p rfl ?_
        refine mix1_val (fun wz hz => ex_move rfl) ?_
        refine mixz_p rfl ?_
        refine mix1_val (fun wz hz => ex_nilCheck rfl) ?_
        refine nZ140 ?_
        refine mixz_p rfl ?_
        refine mix1_val (fun wz hz => ex_fieldAddr fl58_4 rfl) ?_
        refine mixz_p rfl ?_
        refine mix1_val (fun wz hz => ex_move rfl) ?_
        refine mixz_p rfl ?_
        refine mix1_val (fun wz hz => ex_move rfl) ?_
        refine mixz_p rfl ?_
        refine mix1_val (fun wz hz => ex_nilCheck rfl) ?_
        refine nZ140 ?_
        refine mixz_p rfl ?_
        refine mix1_val (fun wz hz => ex_fieldAddr fl58_5 rfl) ?_
        refine mixz_p rfl ?_
        refine mix1_val (fun wz hz => ex_load ty22 rfl (by obtain ⟨v, hz⟩ := hz; exact hz.cell (i := 0) rfl rfl)) ?_
        refine mixz_p rfl ?_
        refine mix1_val (fun wz hz => ex_move rfl) ?_
        refine mixz_p rfl ?_
        refine mix1_val (fun wz hz => ex_cutLo Try.underlying22 ty3 rfl rfl ((by omega))) ?_
        refine nZ140 ?_
        refine mixz_o rfl ?_
        refine ops_val (ex_load ty29 rfl (H15.cell (i := 3) rfl rfl)) ?_
        refine ops_nil ?_
        refine ⟨fun hne => ⟨_, H15.pick [3] (by decide)⟩, ?_⟩
        refine nZ140 ?_
        refine mixz_p rfl ?_
        refine mix1_val (fun wz hz => ex_cutLo Try.underlying29 ty34 rfl rfl ((by omega))) ?_
        refine mixz_o rfl ?_
        have hxr : Rd _ (cutAddr (hd m.gr) k m.cr 1) (W.recs.length - k) 1 (m.xs.drop k) := (rd_cut (H15.rd (i := 4) (xs := m.xs) (sp := m.sr) rfl (by rw [hlst.1, Nat.mul_one]) (by decide)) (by omega) hrc)
        refine ops_call (ex_call gf54 rfl) (cloneBS_any (cutAddr (hd m.gr) k m.cr 1) (W.recs.length - k) (m.cr - k) (m.xs.drop k) _ hxr (all_drop hlst.ones k) (by omega)) ?_
        rintro r w16 ⟨g7, c7, s7, hr7, hc7, hs7, hn7, Hc⟩
        rw [hr7]
        have H16 := H15.call0 Hc
        refine ops_nil ?_
        refine ⟨fun hne => ⟨_, H16.pick [3] (by decide)⟩, ?_⟩
        refine nZ140 ?_
        refine mixz_o rfl ?_
        have hpr : Rd _ (cutAddr (hd m.gp) k m.cp 1) (W.places.length - k) 1 ((i64n W.places).drop k) := (rd_cut (H16.rd (i := 5) (xs := i64n W.places) (sp := m.sq) rfl (by rw [i64n_len, Nat.mul_one]) (by decide)) (by omega) hpc)
        refine ops_call (ex_call gf64 rfl) (cloneI_any (cutAddr (hd m.gp) k m.cp 1) (W.places.length - k) (m.cp - k) ((i64n W.places).drop k) _ hpr (all_drop (i64n_one _) k) (by omega)) ?_
        rintro r w17 ⟨g8, c8, s8, hr8, hc8, hs8, hn8, Hc⟩
        rw [hr8]
        have H17 := H16.call0 Hc
        refine ops_nil ?_
        refine ⟨fun hne => ⟨_, H17.pick [3] (by decide)⟩, ?_⟩
        refine nZ140 ?_
        refine mixz_p rfl ?_
        refine mix1_val (fun wz hz => ex_nilCheck rfl) ?_
        refine mixz_p rfl ?_
        refine mix1_val (fun wz hz => ex_fieldAddr fl58_4 rfl) ?_
        refine mixz_o rfl ?_
        refine ops_store1 ty29 H17 3 rfl rfl rfl rfl (by simp) rfl ?_
        intro w18 H18
        refine ops_nil ?_
        refine ⟨fun hne => ⟨_, H18.pick [3] (by decide)⟩, ?_⟩
        refine nZ140 ?_
        refine mixz_p rfl ?_
        refine mix1_val (fun wz hz => ex_nilCheck rfl) ?_
        refine mixz_p rfl ?_
        refine mix1_val (fun wz hz => ex_fieldAddr fl58_5 rfl) ?_
        refine mixz_o rfl ?_
        refine ops_store1 ty22 H18 3 rfl rfl rfl rfl (by simp) rfl ?_
        intro w19 H19
        refine ops_nil ?_
        refine ⟨fun hne => absurd rfl hne, ?_⟩
        refine nZ140 ?_
        refine mixz_nil ?_
        refine nR140 ?_
        refine run_region ?_
        refine ops_val (ex_move rfl) ?_
        refine ops_val (ex_move rfl) ?_
        refine ops_val (ex_nilCheck rfl) ?_
        refine ops_val (ex_fieldAddr fl58_4 rfl) ?_
        refine nO140 ?_
        refine ops_val (ex_load ty29 rfl (H19.cell (i := 3) rfl rfl)) ?_
        refine ops_val (ex_len_slice Try.underlying29 rfl) ?_
        refine ops_val (ex_nilCheck rfl) ?_
        refine ops_val (ex_fieldAddr fl58_8 rfl) ?_
        refine nO140 ?_
        refine ops_store1 ty3 H19 3 rfl rfl rfl rfl (by simp) rfl ?_
        intro w20 H20
        refine ops_nil ?_
        refine nR140 ?_
        refine run_nil ?_
        refine finP_end0 rfl ?_
        have hu2 : used W.recs - used (W.recs.take k) = used (W.recs.drop k) := by have := used_drop W.recs k; omega
        have hle : used (W.recs.drop k) ≤ used W.recs := by have := used_drop W.recs k; omega
        rw [hu2] at H20
        have hxl := hlst.1
        have H9 : Hp w0 w20 (bl (wRows m D W)) (wRows { m with gw := gw3, cw := cw3, sp := sp3, gr := g7, cr := c7, xs := m.xs.drop k, sr := s7, gp := g8, cp := c8, sq := s8 } (tellW D W k).1.sync.1 (W.tell k)) := by
          have hz := H20.pick [0, 1, 2, 3, 7, 8] (by decide)
          have e1 : (W.tell k).recs.length = W.recs.length - k := by simp [Wl.tell]
          have e2 : (W.tell k).places.length = W.places.length - k := by simp [Wl.tell]
          have e3 : i64n (W.tell k).places = (i64n W.places).drop k := by simp [Wl.tell, i64n, List.map_drop]
          have e4 : (W.tell k).told = W.recs.length - k := by simp [Wl.tell]
          show Hp w0 w20 _ (dRows _ _ _ _ _ _ ++ lRows _ _)
          unfold lRows wcl
          rw [e1, e2, e3, e4]
          exact hz
        refine ⟨⟨hcd1, hcd2, rfl⟩, { m with gw := gw3, cw := cw3, sp := sp3, gr := g7, cr := c7, xs := m.xs.drop k, sr := s7, gp := g8, cp := c8, sq := s8 }, rfl, rfl, rfl, XsOk.drop _ _ _, ?_, H9⟩
        refine ⟨hD3, ?_, by simp [Wl.tell]; omega, hs7, hn7, by simp [Wl.tell, hpl], by simp [Wl.tell]; omega, by simpa [Wl.tell, i64n, List.map_drop] using hs8, hn8, by simp [Wl.tell]; omega, fun r hr => hlong r (List.mem_of_mem_drop hr), by rw [hk2]; exact hsize, by rw [hk2]; exact hfin, fun p hp => hplb p (List.mem_of_mem_drop hp), by show W.first + k ≤ _; omega, by show W.turn + 1 ≤ _; omega, by show used (W.recs.drop k) ≤ _; omega, by simp [Wl.tell]; omega⟩
        exact Lsw.less ((hlst.drop k).to H20) (fun x hx => bl_pick (is := [0, 1, 2, 3, 7, 8]) H20 x hx)
end Go.Proofs.Ytgkciibfpenjpaa
