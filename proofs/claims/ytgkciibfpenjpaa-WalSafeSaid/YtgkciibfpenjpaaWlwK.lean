/- Walks of layer 2, printed by wip/gen/codec.py. -/
import Derived.Test.YtgkciibfpenjpaaNrm
import Derived.Test.YtgkciibfpenjpaaSf
namespace Go.Proofs.Ytgkciibfpenjpaa
open Go Go.RowKit
set_option linter.unusedVariables false
attribute [local irreducible] Still Ops Does Cd
set_option maxRecDepth 100000 in
set_option maxHeartbeats 4000000 in
theorem openB_any (m : Mw) (D : Dk) (k : Mk) (K : Bk) (n s : Nat) (W : Wl) (w0 : World) (H0 : Hp w0 w0 (bl (eRows m D k K)) (eRows m D k K)) (h : EOk w0 m D k K) (hF : Fal D n W s) (htd : W.told = W.recs.length) (htu : W.turn ≤ 2 ^ 50) (hfi : W.first ≤ 2 ^ 50) (hrc : W.recs = (K.all.drop W.first).take W.recs.length) (hto : W.first + W.recs.length ≤ K.all.length) (hsf : K.safe = W.first + W.recs.length) (hfs : K.first = W.first) :
    Does Try.prog 29 #[.pointer (some ⟨k.gb, 0, none⟩)] w0 (fun r w' => r = .bool true ∧ ∃ (q : Mw) (D' : Dk) (W' : Wl) (k' : Mk) (K' : Bk), W'.first = W.first ∧ W'.recs = W.recs ∧ k'.gb = k.gb ∧ K'.safe = W.first + W.recs.length ∧ Hp w0 w' (bl (eRows m D k K)) (kRows (mo m q) k' K' ++ wRows (mo m q) D' W')) := by
  refine does_of Try.func29 Try.ntmps29 rfl ?_
  refine nR118 ?_
  have H : Hp w0 w0 (bl (eRows m D k K)) (kRows m k K ++ dRows m.gd m.gk m.gw m.cw m.sp D) := H0.pick [3, 4, 0, 1, 2] (by decide)
  have he := h
  have hmo := h.most
  have hcb := h.cap
  refine run_seq ?_
  refine run_region ?_
  refine ops_val (ex_assign rfl) ?_
  refine ops_nil ?_
  refine nR118 ?_
  refine run_seq ?_
  refine run_seq ?_
  refine run_region ?_
  refine ops_val (ex_move rfl) ?_
  refine ops_val (ex_nilCheck rfl) ?_
  refine ops_val (ex_fieldAddr fl31_0 rfl) ?_
  refine ops_val (ex_load ty27 rfl (H.cell (i := 0) rfl rfl)) ?_
  refine nO118 ?_
  refine ops_call (ex_call gf28 rfl) (start_any m.gd m.gk m.gw m.cw m.sp D _ (H.pick [2, 3, 4] (by decide)).here he.d) ?_
  rintro r w1 ⟨hr, hp⟩
  rw [hr]
  obtain ⟨q1, he, Hd⟩ := he.disk (m := m) hp
  have H1 : Hp w0 w1 (bl (eRows m D k K)) (kRows m k K ++ (dRows m.gd m.gk q1.gw q1.cw q1.sp D.start)) := (H.callr [2, 3, 4] rfl Hd).pick [0, 1, 5, 6, 7] (by decide)
  obtain ⟨hF1, hd1⟩ := hF.start
  refine ops_false (ex_neq rfl rfl) (by decide) ?_
  refine ops_nil ?_
  refine nR118 ?_
  refine run_cond_false rfl ?_
  refine run_skip ?_
  refine run_seq ?_
  refine run_region ?_
  refine ops_val (ex_move rfl) ?_
  refine ops_val (ex_nilCheck rfl) ?_
  refine ops_val (ex_fieldAddr fl31_0 rfl) ?_
  refine ops_val (ex_load ty27 rfl (H1.cell (i := 0) rfl rfl)) ?_
  refine nO118 ?_
  refine ops_call (ex_call gf26 rfl) (arm_any m.gd m.gk q1.gw q1.cw q1.sp D.start _ (H1.pick [2, 3, 4] (by decide)).here he.d 0 (by decide) (by decide)) ?_
  rintro r w2 ⟨hr, hp⟩
  rw [hr]
  obtain ⟨q2, he, Hd⟩ := he.disk (m := (md m q1)) hp
  have H2 : Hp w0 w2 (bl (eRows m D k K)) (kRows m k K ++ (dRows m.gd m.gk q2.gw q2.cw q2.sp (D.start.arm 0).1)) := (H1.callr [2, 3, 4] rfl Hd).pick [0, 1, 5, 6, 7] (by decide)
  obtain ⟨hF2, hd2⟩ := hF1.arm hd1 0
  refine ops_nil ?_
  refine nR118 ?_
  refine run_seq ?_
  refine run_region ?_
  refine ops_val (ex_move rfl) ?_
  refine ops_val (ex_nilCheck rfl) ?_
  refine ops_val (ex_fieldAddr fl31_0 rfl) ?_
  refine ops_val (ex_load ty27 rfl (H2.cell (i := 0) rfl rfl)) ?_
  refine nO118 ?_
  refine ops_call (ex_call gf18 rfl) (openF_any (md (md m q1) q2) (D.start.arm 0).1 k K n s W _ (H2.pick [2, 3, 4] (by decide)).here he (lt_pick H2 [0, 1] rfl) hF2 hd2 htd htu hfi) ?_
  rintro r w3 ⟨q3, W3, hr, _, hb, Hc, hrc3, hfs3⟩
  rw [hr]
  obtain ⟨D3, hD3⟩ : ∃ D', (D.start.arm 0).1 = D' := ⟨_, rfl⟩
  rw [hD3] at hb Hc
  have hln : W3.recs.length = W.recs.length := by rw [hrc3]
  have H3 : Hp w0 w3 (bl (eRows m D k K)) (kRows m k K ++ wRows (mo m q3) D3 W3) := (H2.callr [2, 3, 4] rfl Hc).pick [0, 1, 5, 6, 7, 8, 9, 10] (by decide)
  refine ops_val (ex_move rfl) ?_
  refine ops_val (ex_extract rfl rfl) ?_
  refine ops_val (ex_extract rfl rfl) ?_
  refine nO118 ?_
  refine ops_val (ex_assign rfl) ?_
  refine ops_val (ex_assign rfl) ?_
  refine ops_nil ?_
  refine nR118 ?_
  refine run_seq ?_
  refine run_seq ?_
  refine run_region ?_
  refine ops_val (ex_move rfl) ?_
  refine ops_false (ex_neq rfl rfl) (by decide) ?_
  refine ops_val (ex_move rfl) ?_
  refine nO118 ?_
  refine ops_yes rfl ?_
  refine ops_val (ex_move rfl) ?_
  refine ops_yes rfl ?_
  refine ops_false (ex_eql_nil_ptr Try.underlying28 rfl) (by simp) ?_
  refine ops_val (ex_pick_f rfl rfl) ?_
  refine ops_nil ?_
  refine nR118 ?_
  refine run_cond_false rfl ?_
  refine run_skip ?_
  refine run_seq ?_
  refine run_region ?_
  refine ops_val (ex_move rfl) ?_
  have HB := H3
  replace H3 := HB.here
  refine ops_val (ex_move rfl) ?_
  refine ops_val (ex_nilCheck rfl) ?_
  refine ops_val (ex_fieldAddr fl31_1 rfl) ?_
  refine nO118 ?_
  refine ops_store1 ty28 H3 0 rfl rfl rfl rfl (by first | decide | simp) rfl ?_
  intro w4 H4
  refine ops_nil ?_
  refine nR118 ?_
  refine run_seq ?_
  refine run_region ?_
  refine ops_val (ex_move rfl) ?_
  replace hb := hb.keep H4 (fun _ hx => bl_swap (a := wRows (mo m q3) D3 W3) (b := kRows m k K) hx)
  have HB : Hp w0 w4 (bl (eRows m D k K)) (kRows (mo m q3) k K ++ wRows (mo m q3) D3 W3) := HB.all H4
  replace H4 := HB.here
  refine ops_call (ex_call gf17 rfl) ((Rn.records_any (mo m q3) D3 W3 _ (H4.pick [2, 3, 4, 5, 6, 7] (by decide)).here hb.ok).d (fun _ _ hx => hx)) ?_
  rintro r w5 ⟨g, cap, ys, sp, hr, hcap, hcs, hgn, hown, hsep, Hc⟩
  rw [hr]
  have hys := hown.lsw
  replace hb := hb.keep0 Hc
  have H5 := H4.call0 Hc
  refine ops_val (ex_assign rfl) ?_
  refine ops_nil ?_
  refine nR118 ?_
  refine run_seq ?_
  refine run_region ?_
  refine ops_val (ex_move rfl) ?_
  refine ops_call_eq (ex_call gf19 rfl) (first_p q3.gv (W3.first : Int) _ (H5.cell (i := 5) rfl rfl)) ?_
  refine ops_val (ex_move rfl) ?_
  refine ops_call_val (ex_call gf15 rfl) (next_any q3.gv W3.first W3.recs.length q3.cr (hd q3.gr) _ (H5.cell (i := 5) rfl rfl) (H5.cell (i := 5) rfl rfl) (by omega)) ?_
  intro w6 Hd
  replace hys := hys.to0 Hd
  replace hb := hb.keep0 Hd
  have H6 := H5.callN Hd
  refine nO118 ?_
  refine ops_val (ex_assign rfl) ?_
  refine ops_val (ex_assign rfl) ?_
  refine ops_nil ?_
  refine nR118 ?_
  refine run_seq ?_
  refine run_seq ?_
  refine run_region ?_
  refine ops_val (ex_move rfl) ?_
  refine ops_val (ex_move rfl) ?_
  refine ops_val (ex_len_slice Try.underlying29 rfl) ?_
  refine ops_val (ex_add rfl rfl ((IntWalk.i64_in _ (by omega)).trans (show ((W3.first : Int) + (W3.recs.length : Int)) = ((W3.first + W3.recs.length : Nat) : Int) by omega))) ?_
  refine nO118 ?_
  refine ops_val (ex_move rfl) ?_
  refine ops_false (ex_neq rfl rfl) (by simp) ?_
  refine ops_val (ex_move rfl) ?_
  refine nO118 ?_
  refine ops_yes rfl ?_
  refine ops_val (ex_move rfl) ?_
  refine ops_yes rfl ?_
  refine ops_val (ex_move rfl) ?_
  refine nO118 ?_
  refine ops_yes rfl ?_
  refine ops_val (ex_move rfl) ?_
  refine ops_yes rfl ?_
  refine ops_call_val (ex_call gf41 rfl) (has_any k.gb (hd k.ga) K.all.length k.ca W3.first k.ys K.all W3.recs (hd g) cap ys _ (H6.cell (i := 0) rfl rfl) rfl hcb (H6.rd (i := 1) rfl (by rw [hb.all.1, Nat.mul_one]) (by decide)) hb.all.bare (by omega) (H6.rd (i := 8) rfl (by rw [hown.len, Nat.mul_one]) (by decide)) hys (by rw [hfs3, hrc3]; exact hrc) hmo h.long) ?_
  intro w7 Hd
  replace hb := hb.keep0 Hd
  have H7 := H6.callN Hd
  refine nO118 ?_
  refine ops_yes rfl ?_
  refine ops_val (ex_not rfl) ?_
  refine ops_val (ex_pick_f rfl rfl) ?_
  refine ops_val (ex_move rfl) ?_
  refine nO118 ?_
  refine ops_yes rfl ?_
  refine ops_val (ex_move rfl) ?_
  refine ops_yes rfl ?_
  refine ops_val (ex_move rfl) ?_
  refine nO118 ?_
  refine ops_yes rfl ?_
  refine ops_val (ex_nilCheck rfl) ?_
  refine ops_yes rfl ?_
  refine ops_val (ex_fieldAddr fl31_4 rfl) ?_
  refine nO118 ?_
  refine ops_yes rfl ?_
  refine ops_val (ex_load ty3 rfl (H7.cell (i := 0) rfl rfl)) ?_
  refine ops_yes rfl ?_
  refine ops_false (ex_lss rfl rfl) (by omega) ?_
  refine ops_val (ex_pick_f rfl rfl) ?_
  refine ops_val (ex_move rfl) ?_
  refine nO118 ?_
  refine ops_yes rfl ?_
  refine ops_val (ex_move rfl) ?_
  refine ops_yes rfl ?_
  refine ops_val (ex_move rfl) ?_
  refine nO118 ?_
  refine ops_yes rfl ?_
  refine ops_val (ex_nilCheck rfl) ?_
  refine ops_yes rfl ?_
  refine ops_val (ex_fieldAddr fl31_3 rfl) ?_
  refine nO118 ?_
  refine ops_yes rfl ?_
  refine ops_val (ex_load ty3 rfl (H7.cell (i := 0) rfl rfl)) ?_
  refine ops_yes rfl ?_
  refine ops_false (ex_gtr rfl rfl) (by omega) ?_
  refine ops_val (ex_pick_f rfl rfl) ?_
  refine ops_nil ?_
  refine nR118 ?_
  refine run_cond_false rfl ?_
  refine run_skip ?_
  refine run_seq ?_
  refine run_seq ?_
  refine run_region ?_
  refine ops_val (ex_move rfl) ?_
  refine ops_val (ex_move rfl) ?_
  refine ops_val (ex_nilCheck rfl) ?_
  refine ops_val (ex_fieldAddr fl31_5 rfl) ?_
  refine nO118 ?_
  refine ops_val (ex_load ty3 rfl (H7.cell (i := 0) rfl rfl)) ?_
  refine ops_false (ex_neq rfl rfl) (by omega) ?_
  refine ops_val (ex_move rfl) ?_
  refine nO118 ?_
  refine ops_no rfl ?_
  refine ops_no rfl ?_
  refine nO118 ?_
  refine ops_no rfl ?_
  refine ops_no rfl ?_
  refine nO118 ?_
  refine ops_no rfl ?_
  refine ops_no rfl ?_
  refine nO118 ?_
  refine ops_no rfl ?_
  refine ops_no rfl ?_
  refine nO118 ?_
  refine ops_no rfl ?_
  refine ops_no rfl ?_
  refine nO118 ?_
  refine ops_no rfl ?_
  refine ops_no rfl ?_
  refine nO118 ?_
  refine ops_no rfl ?_
  refine ops_no rfl ?_
  refine ops_val (ex_pick_f rfl rfl) ?_
  refine ops_nil ?_
  refine nR118 ?_
  refine run_cond_false rfl ?_
  refine run_skip ?_
  refine run_seq ?_
  refine run_region ?_
  refine ops_val (ex_move rfl) ?_
  refine ops_val (ex_move rfl) ?_
  refine ops_val (ex_nilCheck rfl) ?_
  refine ops_val (ex_fieldAddr fl31_2 rfl) ?_
  refine nO118 ?_
  refine ops_val (ex_load ty29 rfl (H7.cell (i := 0) rfl rfl)) ?_
  refine ops_val (ex_move rfl) ?_
  refine ops_val (ex_cutHi Try.underlying29 ty34 rfl rfl (by omega)) ?_
  refine ops_val (ex_nilCheck rfl) ?_
  refine nO118 ?_
  refine ops_val (ex_fieldAddr fl31_2 rfl) ?_
  refine ops_store1 ty29 H7 0 rfl rfl rfl rfl (by first | decide | simp) rfl ?_
  intro w8 H8
  refine ops_nil ?_
  refine nR118 ?_
  refine run_seq ?_
  refine run_region ?_
  refine ops_val (ex_move rfl) ?_
  refine ops_val (ex_move rfl) ?_
  refine ops_val (ex_move rfl) ?_
  refine ops_val (ex_move rfl) ?_
  refine nO118 ?_
  refine ops_val (ex_move rfl) ?_
  refine ops_val (ex_move rfl) ?_
  refine ops_val (ex_move rfl) ?_
  refine ops_val (ex_nilCheck rfl) ?_
  refine nO118 ?_
  refine ops_val (ex_fieldAddr fl31_3 rfl) ?_
  refine ops_store1 ty3 H8 0 rfl rfl rfl rfl (by first | decide | simp) rfl ?_
  intro w9 H9
  refine ops_val (ex_nilCheck rfl) ?_
  refine ops_val (ex_fieldAddr fl31_4 rfl) ?_
  refine ops_store1 ty3 H9 0 rfl rfl rfl rfl (by first | decide | simp) rfl ?_
  intro w10 H10
  refine ops_val (ex_nilCheck rfl) ?_
  refine nO118 ?_
  refine ops_val (ex_fieldAddr fl31_5 rfl) ?_
  refine ops_store1 ty3 H10 0 rfl rfl rfl rfl (by first | decide | simp) rfl ?_
  intro w11 H11
  refine ops_val (ex_nilCheck rfl) ?_
  refine ops_val (ex_fieldAddr fl31_6 rfl) ?_
  refine ops_store1 ty3 H11 0 rfl rfl rfl rfl (by first | decide | simp) rfl ?_
  intro w12 H12
  refine ops_nil ?_
  refine nR118 ?_
  refine run_seq ?_
  refine run_region ?_
  refine ops_val (ex_assign rfl) ?_
  refine ops_nil ?_
  refine nR118 ?_
  refine run_ret ?_
  refine fin_ret1 rfl rfl ?_
  have e2 : (K.all.take (W3.first + W3.recs.length)).length = W3.first + W3.recs.length := by rw [List.length_take]; omega
  have e3 : k.ys.take (W3.first + W3.recs.length) ++ (k.ys.drop (W3.first + W3.recs.length) ++ k.sa) = k.ys ++ k.sa := by rw [← List.append_assoc, List.take_append_drop]
  refine ⟨rfl, q3, D3, W3, { k with ys := k.ys.take (W3.first + W3.recs.length), sa := k.ys.drop (W3.first + W3.recs.length) ++ k.sa }, ⟨K.all.take (W3.first + W3.recs.length), W3.first + W3.recs.length, W3.first, -1, K.made⟩, hfs3, hrc3, rfl, by show W3.first + W3.recs.length = _; omega, ?_⟩
  unfold kRows bcl
  simp only [e2, e3]
  exact (HB.all H12).pick [0, 1, 2, 3, 4, 5, 6, 7] (by decide)
end Go.Proofs.Ytgkciibfpenjpaa
