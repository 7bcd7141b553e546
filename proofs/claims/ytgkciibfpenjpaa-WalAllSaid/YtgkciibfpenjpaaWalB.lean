/- Walks of layer 2, printed by wip/gen/codec.py. -/
import Derived.Test.YtgkciibfpenjpaaNrm
import Derived.Test.YtgkciibfpenjpaaWalA
namespace Go.Proofs.Ytgkciibfpenjpaa
open Go Go.RowKit
set_option linter.unusedVariables false
attribute [local irreducible] Still Ops Does Cd
set_option maxRecDepth 100000 in
set_option maxHeartbeats 4000000 in
theorem refused_dead (m : Mw) (D : Dk) (W : Wl) (w0 : World) (H0 : Hp w0 w0 (bl (wRows m D W)) (wRows m D W)) (h : WOk w0 m D W) (hx : W.dead = true) :
    Does Try.prog 30 #[.pointer (some ⟨m.gv, 0, none⟩)] w0 (fun r w' => r = .bool (W.dead || D.down) ∧ Hp w0 w' (bl (wRows m D W)) (wRows m D { W with dead := W.dead || D.down })) := by
  refine does_of Try.func30 Try.ntmps30 rfl ?_
  refine nR21 ?_
  have H := H0
  refine run_seq ?_
  refine run_region ?_
  refine ops_val (ex_assign rfl) ?_
  refine ops_nil ?_
  refine nR21 ?_
  refine run_seq ?_
  refine run_region ?_
  refine ops_val (ex_move rfl) ?_
  refine ops_val (ex_move rfl) ?_
  refine ops_val (ex_nilCheck rfl) ?_
  refine ops_val (ex_fieldAddr fl58_1 rfl) ?_
  refine nO21 ?_
  refine ops_val (v := .bool true) (ex_load ty4 rfl (by have hz := H.cell (i := 3) (o := 1) (v := .bool W.dead) rfl rfl; rw [hx] at hz; exact hz)) ?_
  refine ops_val (ex_move rfl) ?_
  refine nO21 ?_
  refine ops_no rfl ?_
  refine ops_no rfl ?_
  refine nO21 ?_
  refine ops_no rfl ?_
  refine ops_no rfl ?_
  refine nO21 ?_
  refine ops_no rfl ?_
  refine ops_val (ex_pick_t rfl rfl) ?_
  refine ops_val (ex_nilCheck rfl) ?_
  refine ops_val (ex_fieldAddr fl58_1 rfl) ?_
  refine nO21 ?_
  refine ops_store1 ty4 H 3 rfl rfl rfl rfl (by first | decide | simp) rfl ?_
  intro w1 H1
  refine ops_nil ?_
  refine nR21 ?_
  refine run_seq ?_
  refine run_region ?_
  refine ops_val (ex_move rfl) ?_
  refine ops_val (ex_nilCheck rfl) ?_
  refine ops_val (ex_fieldAddr fl58_1 rfl) ?_
  refine ops_val (ex_load ty4 rfl (H1.cell (i := 3) rfl rfl)) ?_
  refine nO21 ?_
  refine ops_val (ex_assign rfl) ?_
  refine ops_nil ?_
  refine nR21 ?_
  refine run_ret ?_
  refine fin_ret1 rfl rfl ?_
  rw [hx]
  exact ⟨rfl, H1⟩
set_option maxRecDepth 100000 in
set_option maxHeartbeats 4000000 in
theorem refused_live (m : Mw) (D : Dk) (W : Wl) (w0 : World) (H0 : Hp w0 w0 (bl (wRows m D W)) (wRows m D W)) (h : WOk w0 m D W) (hx : W.dead = false) :
    Does Try.prog 30 #[.pointer (some ⟨m.gv, 0, none⟩)] w0 (fun r w' => r = .bool (W.dead || D.down) ∧ Hp w0 w' (bl (wRows m D W)) (wRows m D { W with dead := W.dead || D.down })) := by
  refine does_of Try.func30 Try.ntmps30 rfl ?_
  refine nR21 ?_
  have H := H0
  refine run_seq ?_
  refine run_region ?_
  refine ops_val (ex_assign rfl) ?_
  refine ops_nil ?_
  refine nR21 ?_
  refine run_seq ?_
  refine run_region ?_
  refine ops_val (ex_move rfl) ?_
  refine ops_val (ex_move rfl) ?_
  refine ops_val (ex_nilCheck rfl) ?_
  refine ops_val (ex_fieldAddr fl58_1 rfl) ?_
  refine nO21 ?_
  refine ops_val (v := .bool false) (ex_load ty4 rfl (by have hz := H.cell (i := 3) (o := 1) (v := .bool W.dead) rfl rfl; rw [hx] at hz; exact hz)) ?_
  refine ops_val (ex_move rfl) ?_
  refine nO21 ?_
  refine ops_yes rfl ?_
  refine ops_val (ex_move rfl) ?_
  refine ops_yes rfl ?_
  refine ops_val (ex_nilCheck rfl) ?_
  refine nO21 ?_
  refine ops_yes rfl ?_
  refine ops_val (ex_fieldAddr fl58_0 rfl) ?_
  refine ops_yes rfl ?_
  refine ops_val (ex_load ty27 rfl (H.cell (i := 3) rfl rfl)) ?_
  refine nO21 ?_
  refine ops_yes rfl ?_
  refine ops_call_eq (ex_call gf27 rfl) (down_p m.gd D.down _ (H.cell (i := 0) rfl rfl)) ?_
  refine ops_val (ex_pick_f rfl rfl) ?_
  refine ops_val (ex_nilCheck rfl) ?_
  refine ops_val (ex_fieldAddr fl58_1 rfl) ?_
  refine nO21 ?_
  refine ops_store1 ty4 H 3 rfl rfl rfl rfl (by first | decide | simp) rfl ?_
  intro w1 H1
  refine ops_nil ?_
  refine nR21 ?_
  refine run_seq ?_
  refine run_region ?_
  refine ops_val (ex_move rfl) ?_
  refine ops_val (ex_nilCheck rfl) ?_
  refine ops_val (ex_fieldAddr fl58_1 rfl) ?_
  refine ops_val (ex_load ty4 rfl (H1.cell (i := 3) rfl rfl)) ?_
  refine nO21 ?_
  refine ops_val (ex_assign rfl) ?_
  refine ops_nil ?_
  refine nR21 ?_
  refine run_ret ?_
  refine fin_ret1 rfl rfl ?_
  rw [hx]
  exact ⟨rfl, H1⟩
theorem refused_any (m : Mw) (D : Dk) (W : Wl) (w0 : World) (H0 : Hp w0 w0 (bl (wRows m D W)) (wRows m D W)) (h : WOk w0 m D W) : Does Try.prog 30 #[.pointer (some ⟨m.gv, 0, none⟩)] w0 (fun r w' => r = .bool (W.dead || D.down) ∧ Hp w0 w' (bl (wRows m D W)) (wRows m D { W with dead := W.dead || D.down })) := by
  cases hx : W.dead
  · simpa only [hx] using refused_live m D W w0 H0 h hx
  · simpa only [hx] using refused_dead m D W w0 H0 h hx
def Wl.took (W : Wl) (D : Dk) (b : Blk) : Wl := { W with recs := W.recs ++ [b], places := W.places ++ [W.fin], fin := (W.fin + nbk b.length) % (D.kept.length - 2) }
theorem wmod {a b n : Nat} (ha : a < 2 ^ 40) (hb : b < 2 ^ 40) (hn : 2 < n) : ((a : Int) + (b : Int)).tmod ((n : Int) - 2) = (((a + b) % (n - 2) : Nat) : Int) := by
  rw [show ((n : Int) - 2) = ((n - 2 : Nat) : Int) by omega, show ((a : Int) + (b : Int)) = ((a + b : Nat) : Int) by omega]
  exact tmodN _ _
theorem wgt_le {n : Nat} (h : n ≤ 16384) : wgt n ≤ 300 := by unfold wgt; omega
theorem nbk_le {n : Nat} (h : n ≤ 16384) : nbk n ≤ 300 := by unfold nbk; omega
theorem nbk_pos (n : Nat) : 0 < nbk n := by unfold nbk; omega
set_option maxRecDepth 100000 in
set_option maxHeartbeats 4000000 in
theorem took_any (m : Mw) (D : Dk) (W : Wl) (w0 : World) (H0 : Hp w0 w0 (bl (wRows m D W)) (wRows m D W)) (h : WOk w0 m D W) (A : Option Addr) (b : Blk) (c : Nat) (hr : Rd w0 A b.length 1 (u8s b)) (ha : 0 < b.length → ∀ p, A = some p → p.block ∉ bl (wRows m D W)) (hb : b.length ≤ 16384) (hn : W.recs.length < 16384) (hu0 : used W.recs ≤ 2 ^ 39) :
    Does Try.prog 39 #[.pointer (some ⟨m.gv, 0, none⟩), .slice A b.length c] w0 (fun _ w' => ∃ m' : Mw, m'.gd = m.gd ∧ m'.gk = m.gk ∧ m'.gv = m.gv ∧ m'.xs = m.xs ++ [.slice A b.length c] ∧ WOk w' m' D (W.took D b) ∧ Hp w0 w' (bl (wRows m D W)) (wRows m' D (W.took D b))) := by
  refine does_of Try.func39 Try.ntmps39 rfl ?_
  refine nR54 ?_
  have H := H0
  obtain ⟨hD, hlst, hrc, hrs, hrn, hpl, hpc, hps, hpn, hmost, hlong, hsize, hfin, hplb, hfirst, hturn, hused, htold⟩ := h
  have hkept := hD.most
  refine run_seq ?_
  refine run_region ?_
  refine ops_val (ex_move rfl) ?_
  refine ops_val (ex_move rfl) ?_
  refine ops_val (ex_nilCheck rfl) ?_
  refine ops_val (ex_fieldAddr fl58_4 rfl) ?_
  refine nO54 ?_
  refine ops_val (ex_load ty29 rfl (H.cell (i := 3) rfl rfl)) ?_
  refine ops_val (ex_move rfl) ?_
  refine ops_buildSlice Try.underlying29 ty34 H rfl (by decide) rfl ?_
  intro w1 g1 H1 hg1
  refine ops_append Try.underlying29 ty34 (by decide) H1 4 (g := m.gr) (n := W.recs.length) (cap := m.cr) (xs := m.xs) (sp := m.sr) rfl rfl (by rw [hlst.1, Nat.mul_one]) (by rw [Nat.mul_one]; exact hrs) hrc hrn rfl (H1.rd (i := 6) (o := some g1) (xs := [.slice A b.length c]) (sp := []) rfl rfl (by decide)) rfl (by omega) (by omega) (by decide) ?_
  intro w2 g3 cap3 sp3 H2 hcap3 hmc3 hg3
  rw [Nat.mul_one] at hcap3
  refine nO54 ?_
  refine ops_val (ex_nilCheck rfl) ?_
  refine ops_val (ex_fieldAddr fl58_4 rfl) ?_
  refine ops_store1 ty29 H2 3 rfl rfl rfl rfl (by first | decide | simp) rfl ?_
  intro w3 H3
  refine ops_nil ?_
  refine nR54 ?_
  refine run_seq ?_
  refine run_mixZ 13 [(true, 0), (true, 1), (true, 2), (true, 3), (true, 4), (true, 5), (true, 6), (true, 7), (true, 8), (false, 9), (false, 10), (true, 11), (true, 12), (false, 13)] H3 [3] mixed (by decide) (by kernel_rfl) ?_
  rintro w4 hw4
  have H4 := Hp.drew H3; rw [← hw4] at H4
  refine mixz_p rfl ?_
  refine mix1_val (fun wz hz => ex_move rfl) ?_
  refine mixz_p rfl ?_
  refine mix1_val (fun wz hz => ex_move rfl) ?_
  refine mixz_p rfl ?_
  refine mix1_val (fun wz hz => ex_nilCheck rfl) ?_
  refine mixz_p rfl ?_
  refine mix1_val (fun wz hz => ex_fieldAddr fl58_5 rfl) ?_
  refine nZ54 ?_
  refine mixz_p rfl ?_
  refine mix1_val (fun wz hz => ex_load ty22 rfl (hz.cell (i := 0) rfl rfl)) ?_
  refine mixz_p rfl ?_
  refine mix1_val (fun wz hz => ex_move rfl) ?_
  refine mixz_p rfl ?_
  refine mix1_val (fun wz hz => ex_nilCheck rfl) ?_
  refine mixz_p rfl ?_
  refine mix1_val (fun wz hz => ex_fieldAddr fl58_6 rfl) ?_
  refine nZ54 ?_
  refine mixz_p rfl ?_
  refine mix1_val (fun wz hz => ex_load ty3 rfl (hz.cell (i := 0) rfl rfl)) ?_
  refine mixz_o rfl ?_
  refine ops_buildSlice Try.underlying22 ty3 H4 rfl (by decide) rfl ?_
  intro w5 g5 H5 hg5
  refine ops_nil ?_
  refine ⟨fun hne => H5.pick [3] (by decide), ?_⟩
  refine nZ54 ?_
  refine mixz_o rfl ?_
  refine ops_append Try.underlying22 ty3 (by decide) H5 5 (g := m.gp) (n := W.places.length) (cap := m.cp) (xs := i64n W.places) (sp := m.sq) rfl rfl (by rw [i64n_len, Nat.mul_one]) (by rw [Nat.mul_one]; exact hps) hpc hpn rfl (H5.rd (i := 7) (o := some g5) (xs := [.int .i64 (W.fin : Int)]) (sp := []) rfl rfl (by decide)) rfl (by omega) (by omega) (by decide) ?_
  intro w6 g4 cap4 sp4 H6 hcap4 hmc4 hg4
  rw [Nat.mul_one] at hcap4
  refine ops_nil ?_
  refine ⟨fun hne => H6.pick [3] (by decide), ?_⟩
  refine nZ54 ?_
  refine mixz_p rfl ?_
  refine mix1_val (fun wz hz => ex_nilCheck rfl) ?_
  refine mixz_p rfl ?_
  refine mix1_val (fun wz hz => ex_fieldAddr fl58_5 rfl) ?_
  refine mixz_o rfl ?_
  refine ops_store1 ty22 H6 3 rfl rfl rfl rfl (by first | decide | simp) rfl ?_
  intro w7 H7
  refine ops_nil ?_
  refine ⟨fun hne => absurd rfl hne, ?_⟩
  refine nZ54 ?_
  refine mixz_nil ?_
  refine nR54 ?_
  refine run_seq ?_
  refine run_mixZ 17 [(true, 0), (true, 1), (true, 2), (true, 3), (true, 4), (true, 5), (true, 6), (true, 7), (true, 8), (true, 9), (true, 10), (true, 11), (true, 12), (false, 13), (true, 14), (true, 15), (true, 16), (false, 17)] H7 [0, 3] mixed (by decide) (by kernel_rfl) ?_
  rintro w8 hw8
  have H8 := Hp.drew H7; rw [← hw8] at H8
  refine mixz_p rfl ?_
  refine mix1_val (fun wz hz => ex_move rfl) ?_
  refine mixz_p rfl ?_
  refine mix1_val (fun wz hz => ex_move rfl) ?_
  refine mixz_p rfl ?_
  refine mix1_val (fun wz hz => ex_nilCheck rfl) ?_
  refine mixz_p rfl ?_
  refine mix1_val (fun wz hz => ex_fieldAddr fl58_6 rfl) ?_
  refine nZ54 ?_
  refine mixz_p rfl ?_
  refine mix1_val (fun wz hz => ex_load ty3 rfl (hz.cell (i := 1) rfl rfl)) ?_
  refine mixz_p rfl ?_
  refine mix1_val (fun wz hz => ex_move rfl) ?_
  refine mixz_p rfl ?_
  refine mix1_val (fun wz hz => ex_len_slice Try.underlying34 rfl) ?_
  refine mixz_p rfl ?_
  refine mix1_val (fun wz hz => ex_add rfl rfl (IntWalk.i64_in _ (by omega))) ?_
  refine nZ54 ?_
  refine mixz_p rfl ?_
  refine mix1_val (fun wz hz => ex_add rfl rfl (IntWalk.i64_in _ (by omega))) ?_
  refine mixz_p rfl ?_
  refine mix1_val (fun wz hz => ex_sub rfl rfl (IntWalk.i64_in _ (by omega))) ?_
  refine mixz_p rfl ?_
  refine mix1_val (fun wz hz => ex_quo rfl rfl (by omega) (wq4 b.length (by omega))) ?_
  refine mixz_p rfl ?_
  refine mix1_val (fun wz hz => ex_add rfl rfl (IntWalk.i64_in _ (by have := nbk_le hb; omega))) ?_
  refine nZ54 ?_
  refine mixz_p rfl ?_
  refine mix1_val (fun wz hz => ex_move rfl) ?_
  refine mixz_o rfl ?_
  refine ops_call_eq (ex_call gf38 rfl) (ring_p m.gv m.gd D.kept.length _ _ _ (H8.cell (i := 3) rfl rfl) (H8.cell (i := 0) rfl rfl) hkept) ?_
  refine ops_nil ?_
  refine ⟨fun hne => H8.pick [0, 3] (by decide), ?_⟩
  refine nZ54 ?_
  refine mixz_p rfl ?_
  refine mix1_val (fun wz hz => ex_rem rfl rfl (by omega) (wmod (by omega) (by have := nbk_le hb; omega) (by omega))) ?_
  refine mixz_p rfl ?_
  refine mix1_val (fun wz hz => ex_nilCheck rfl) ?_
  refine mixz_p rfl ?_
  refine mix1_val (fun wz hz => ex_fieldAddr fl58_6 rfl) ?_
  refine mixz_o rfl ?_
  refine ops_store1 ty3 H8 3 rfl rfl rfl rfl (by first | decide | simp) rfl ?_
  intro w9 H9
  refine ops_nil ?_
  refine ⟨fun hne => absurd rfl hne, ?_⟩
  refine nZ54 ?_
  refine mixz_nil ?_
  refine nR54 ?_
  refine run_mixZ 10 [(true, 0), (true, 1), (true, 2), (true, 3), (true, 4), (true, 5), (false, 6), (true, 7), (true, 8), (true, 9), (false, 10)] H9 [3] mixed (by decide) (by kernel_rfl) ?_
  rintro w10 hw10
  have H10 := Hp.drew H9; rw [← hw10] at H10
  refine mixz_p rfl ?_
  refine mix1_val (fun wz hz => ex_move rfl) ?_
  refine mixz_p rfl ?_
  refine mix1_val (fun wz hz => ex_nilCheck rfl) ?_
  refine mixz_p rfl ?_
  refine mix1_val (fun wz hz => ex_fieldAddr fl58_7 rfl) ?_
  refine mixz_p rfl ?_
  refine mix1_val (fun wz hz => ex_load ty3 rfl (hz.cell (i := 0) rfl rfl)) ?_
  refine nZ54 ?_
  refine mixz_p rfl ?_
  refine mix1_val (fun wz hz => ex_move rfl) ?_
  refine mixz_p rfl ?_
  refine mix1_val (fun wz hz => ex_len_slice Try.underlying34 rfl) ?_
  refine mixz_o rfl ?_
  refine ops_call_eq (ex_call gf31 rfl) (weight_any b.length _ (by omega)) ?_
  refine ops_nil ?_
  refine ⟨fun hne => H10.pick [3] (by decide), ?_⟩
  refine nZ54 ?_
  refine mixz_p rfl ?_
  refine mix1_val (fun wz hz => ex_add rfl rfl (IntWalk.i64_in _ (by have := wgt_le hb; omega))) ?_
  refine mixz_p rfl ?_
  refine mix1_val (fun wz hz => ex_nilCheck rfl) ?_
  refine mixz_p rfl ?_
  refine mix1_val (fun wz hz => ex_fieldAddr fl58_7 rfl) ?_
  refine mixz_o rfl ?_
  refine ops_store1 ty3 H10 3 rfl rfl rfl rfl (by first | decide | simp) rfl ?_
  intro w11 H11
  refine ops_nil ?_
  refine ⟨fun hne => absurd rfl hne, ?_⟩
  refine nZ54 ?_
  refine mixz_nil ?_
  refine nR54 ?_
  refine run_nil ?_
  refine fin_end0 rfl ?_
  have hw := wgt_le hb
  have hu : used (W.recs ++ [b]) = used W.recs + wgt b.length := by rw [used_append, used_one]
  refine ⟨{ m with gr := g3, cr := cap3, xs := m.xs ++ [.slice A b.length c], sr := sp3, gp := g4, cp := cap4, sq := sp4 }, rfl, rfl, rfl, rfl, ?_, ?_⟩
  · have hP : i64n W.places ++ [Value.int .i64 (W.fin : Int)] = i64n (W.places ++ [W.fin]) := by simp [i64n]
    have HZ := H11
    have hbl : ∀ p ∈ bl (wRows { m with gr := g3, cr := cap3, xs := m.xs ++ [.slice A b.length c], sr := sp3, gp := g4, cp := cap4, sq := sp4 } D (W.took D b)), p ∈ bl _ := fun p hp => bl_pick (is := [0, 1, 2, 3, 4, 5]) HZ p (by simpa [bl, hP] using hp)
    refine ⟨hD, ?_, by simp [Wl.took]; omega, by simpa [Wl.took] using hcap3, hg3, by simp [Wl.took, hpl], by simp [Wl.took]; omega, by rw [show (W.took D b).places = W.places ++ [W.fin] from rfl, ← hP]; exact hcap4, hg4, by simp [Wl.took]; omega, ?_, hsize, Nat.mod_lt _ (by omega), ?_, hfirst, hturn, by rw [show (W.took D b).recs = W.recs ++ [b] from rfl, hu]; omega, htold⟩
    · exact Lsw.less (Lsw.snoc (hlst.to HZ) (Rd.fcw hr HZ ha) (fun h0 => apt_to hr h0 (ha h0) HZ)) hbl
    · intro r hr2
      rcases List.mem_append.1 hr2 with h | h
      · exact hlong r h
      · simp at h; rw [h]; exact hb
    · intro p hp
      rcases List.mem_append.1 hp with h | h
      · exact hplb p h
      · simp at h; omega
  · have hP : i64n W.places ++ [Value.int .i64 (W.fin : Int)] = i64n (W.places ++ [W.fin]) := by simp [i64n]
    have HZ := H11.pick [0, 1, 2, 3, 4, 5] (by decide)
    have e1 : (W.took D b).recs.length = W.recs.length + 1 := by simp [Wl.took]
    have e2 : (W.took D b).places.length = W.places.length + 1 := by simp [Wl.took]
    rw [hP] at HZ
    unfold wRows lRows wcl
    rw [e1, e2, show (W.took D b).recs = W.recs ++ [b] from rfl, hu]
    exact HZ
end Go.Proofs.Ytgkciibfpenjpaa
