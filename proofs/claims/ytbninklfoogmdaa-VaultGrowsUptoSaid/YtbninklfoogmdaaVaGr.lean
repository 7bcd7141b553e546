/- Walks of layer 2, printed by wip/gen/codec.py. -/
import Derived.Test.YtbninklfoogmdaaNrm
import Derived.Test.YtbninklfoogmdaaGro
import Derived.Test.YtbninklfoogmdaaRe
import Derived.Test.YtbninklfoogmdaaVaX
import Derived.Test.YtbninklfoogmdaaVaO
namespace Go.Proofs.Ytbninklfoogmdaa
open Go Go.RowKit
set_option linter.unusedVariables false
attribute [local irreducible] Still Ops Does Cd
set_option maxRecDepth 100000 in
set_option maxHeartbeats 32000000 in
theorem grows_v (A : Option Addr) (k : Nat) (l : List Nt) (B : Option Addr) (j : Nat) (m : List Nt) (okl okm : Nat → Prop) (w0 : World) (hl : Sl (NtR w0 okl) 16 w0 okl A l) (hm : Sl (NtR w0 okm) 16 w0 okm B m) (hn : l.length ≤ 2000000) (hmn : m.length ≤ 2000000) :
    Does Try.prog 3 #[.slice A l.length k, .slice B m.length j] w0 (fun r w' => r = .bool true ∧ Hp w0 w' [] []) := by
  refine does_of Try.func3 Try.ntmps3 rfl ?_
  refine nR153 ?_
  have H := Hp.refl w0
  refine run_seq ?_
  refine run_region ?_
  refine ops_val (ex_assign rfl) ?_
  refine ops_nil ?_
  refine nR153 ?_
  refine run_seq ?_
  refine run_seq ?_
  refine run_region ?_
  refine ops_call_val (ex_call gf4 rfl) (awake_v _) ?_
  intro w1 Hd
  have H1 := H.callN Hd
  refine ops_val (ex_not rfl) ?_
  refine ops_nil ?_
  refine nR153 ?_
  refine run_cond_false rfl ?_
  refine run_skip ?_
  refine run_seq ?_
  refine run_region ?_
  refine ops_val (ex_move rfl) ?_
  obtain ⟨n0, hn0⟩ : ∃ n, n = w1.heap.size := ⟨_, rfl⟩
  refine ops_call (ex_call gf5 rfl) (replay_v A k l okl _ (hl.toN H1 k0) (by omega)) ?_
  rintro _ w2 ⟨cs1, e1, a, rfl, ha, hrep1, Hd⟩
  obtain ⟨X1, x1, X2, x2, X3, x3, rfl, hx1, _⟩ := ha
  have HR := H1.callN Hd
  have H2 : Hp w2 w2 [] [] := Hp.refl _
  refine ops_val (ex_move rfl) ?_
  refine ops_val (ex_extract rfl rfl) ?_
  refine nO153 ?_
  refine ops_val (ex_extract rfl rfl) ?_
  refine ops_alloc ty28 H2 ?_
  intro w3 g5 H3 hg5
  refine ops_store ty28 H3 0 (vs := [.slice X1 a.groups.length x1, .slice X2 a.rights.length x2, .slice X3 a.last.length x3]) rfl rfl rfl rfl rfl (Nat.le_refl 3) rfl ?_
  intro w4 H4
  refine ops_val (ex_assign rfl) ?_
  refine ops_nil ?_
  refine nR153 ?_
  refine run_seq ?_
  refine run_region ?_
  refine ops_val (ex_move rfl) ?_
  obtain ⟨nC, hnC⟩ : ∃ n, n = w4.heap.size := ⟨_, rfl⟩
  have hg5l := H4.lt (i := 0) rfl
  refine ops_call (ex_call gf6 rfl) (copy_r A k l okl _ (hl.toN (HR.all H4) k0) (by omega)) ?_
  rintro _ w5 ⟨g1, c1, q1, s1, he1, hG1, hA1, Hd⟩
  rw [← hA1.len] at he1
  subst he1
  rw [← hnC] at hA1
  have H5 := H4.call0 Hd
  have hs1 := Hd.size
  have hp1 : ∀ x, g1 = some x → nC ≤ x := fun x hx => by subst hx; have := bl_new Hd (k := x) (by simp [bl]); omega
  refine ops_val (ex_move rfl) ?_
  obtain ⟨nD, hnD⟩ : ∃ n, n = w5.heap.size := ⟨_, rfl⟩
  have hp1b : ∀ x, g1 = some x → x < nD := fun x hx => by subst hx; have := H5.lt (i := 1) rfl; omega
  refine ops_call (ex_call gf6 rfl) (copy_r B j m okm _ (hm.toN (HR.all H5) k0) (by omega)) ?_
  rintro _ w6 ⟨g2, c2, q2, s2, he2, hG2, hA2, Hd⟩
  rw [← hA2.len] at he2
  subst he2
  rw [← hnD] at hA2
  have hp2 : ∀ x, g2 = some x → nD ≤ x := fun x hx => by subst hx; have := bl_new Hd (k := x) (by simp [bl]); omega
  have hs2 := Hd.size
  have hQ1 := hA1.imp fun p x h => NtR.to (ok' := fun x => nC ≤ x ∧ g1 ≠ some x ∧ x < nD) h.nt Hd fun x hx hlt => ⟨by simp, hx.1, hx.2, by omega⟩
  have hQ2 := hA2.imp fun p x h => h.nt
  have HP := H5.call0 Hd
  have H6 := HP.here
  refine nO153 ?_
  have hlq1 := hA1.len
  have hlq2 := hA2.len
  refine ops_grow Try.underlying22 ty48 (by decide) H6 1 hG1 rfl rfl (rs := q2)  rfl rfl (H6.rd (i := 2) (o := g2) (xs := q2.flatten) (sp := s2) rfl hG2.2.2.2.len (by decide)) hG2.2.2.2 (All2.ones (fun _ _ h => NtR.ones (NtW.nt h)) hA2) (by omega) (by omega) (by decide) ?_
  intro w7 g9 cap9 sp9 H7 hG9
  have hA12 : All2 (NtR w7 (fun _ => True)) (q1 ++ q2) (l ++ m) := (hQ1.imp fun p x h => h.to H7 fun x hx _ => ⟨fun hb => (show False from by
    rcases bl3o hb with h | h | h
    · omega
    · exact hx.2.1 h
    · have := hp2 x h; omega), trivial⟩).app (hQ2.imp fun p x h => h.to H7 fun x hx _ => ⟨fun hb => (show False from by
    rcases bl3o hb with h | h | h
    · omega
    · have := hp1b x h; omega
    · exact hx.2 h), trivial⟩)
  rw [hA12.len]
  have hl12 : (l ++ m).length ≤ 4000000 := by rw [List.length_append]; omega
  obtain ⟨nE, hnE⟩ : ∃ n, n = w7.heap.size := ⟨_, rfl⟩
  have hsE := H7.size
  have hsP := HP.size
  refine ops_call (ex_call gf5 rfl) (replay_v (hd g9) cap9 (l ++ m) (fun _ => True) _ (Sl.row H7 (i := 1) rfl hG9.2.2.2 (by decide) hA12 fun _ _ => trivial) (by omega)) ?_
  rintro _ w8 ⟨cs2, e2, b, rfl, hb, hrep2, Hd⟩
  rw [← hnE] at hb
  obtain ⟨Y1, y1, Y2, y2, Y3, y3, rfl, hy1, _⟩ := hb
  have HQ := (HP.all (H7.callN Hd)).pick [0] (by decide)
  have H8 := HQ.here
  refine ops_val (ex_move rfl) ?_
  refine ops_val (ex_extract rfl rfl) ?_
  refine nO153 ?_
  refine ops_val (ex_extract rfl rfl) ?_
  refine ops_alloc ty28 H8 ?_
  intro w9 g7 H9 hg7
  refine ops_store ty28 H9 1 (vs := [.slice Y1 b.groups.length y1, .slice Y2 b.rights.length y2, .slice Y3 b.last.length y3]) rfl rfl rfl rfl rfl (Nat.le_refl 3) rfl ?_
  intro w10 H10
  refine ops_val (ex_assign rfl) ?_
  refine ops_nil ?_
  refine nR153 ?_
  refine run_seq ?_
  refine run_seq ?_
  refine run_region ?_
  refine ops_val (ex_move rfl) ?_
  rcases rep_three hrep1 hrep2 with ⟨rfl, rfl⟩ | ⟨rfl, rfl⟩ | ⟨rfl, rfl, hga, hgb, hge9⟩
  · skip
    refine ops_true (ex_neq rfl rfl) (by decide) ?_
    refine ops_val (ex_move rfl) ?_
    refine nO153 ?_
    refine ops_no rfl ?_
    refine ops_no rfl ?_
    refine ops_val (ex_pick_t rfl rfl) ?_
    refine ops_nil ?_
    refine nR153 ?_
    refine run_cond_true rfl ?_
    refine run_seq ?_
    refine run_region ?_
    refine ops_val (ex_move rfl) ?_
    refine ops_false (ex_eql rfl rfl) (by decide) ?_
    refine ops_val (ex_move rfl) ?_
    refine nO153 ?_
    refine ops_yes rfl ?_
    refine ops_val (ex_move rfl) ?_
    refine ops_yes rfl ?_
    refine ops_true (ex_neq rfl rfl) (by decide) ?_
    refine ops_val (ex_pick_f rfl rfl) ?_
    refine ops_val (ex_assign rfl) ?_
    refine ops_nil ?_
    refine nR153 ?_
    refine run_ret ?_
    refine fin_ret1 rfl rfl ?_
    exact ⟨rfl, (HR.all (HQ.all H10)).noRows⟩
  · skip
    refine ops_false (ex_neq rfl rfl) (by decide) ?_
    refine ops_val (ex_move rfl) ?_
    refine nO153 ?_
    refine ops_yes rfl ?_
    refine ops_val (ex_move rfl) ?_
    refine ops_yes rfl ?_
    refine ops_true (ex_neq rfl rfl) (by decide) ?_
    refine ops_val (ex_pick_f rfl rfl) ?_
    refine ops_nil ?_
    refine nR153 ?_
    refine run_cond_true rfl ?_
    refine run_seq ?_
    refine run_region ?_
    refine ops_val (ex_move rfl) ?_
    refine ops_true (ex_eql rfl rfl) (by decide) ?_
    refine ops_val (ex_move rfl) ?_
    refine nO153 ?_
    refine ops_no rfl ?_
    refine ops_no rfl ?_
    refine ops_val (ex_pick_t rfl rfl) ?_
    refine ops_val (ex_assign rfl) ?_
    refine ops_nil ?_
    refine nR153 ?_
    refine run_ret ?_
    refine fin_ret1 rfl rfl ?_
    exact ⟨rfl, (HR.all (HQ.all H10)).noRows⟩
  · skip
    refine ops_false (ex_neq rfl rfl) (by decide) ?_
    refine ops_val (ex_move rfl) ?_
    refine nO153 ?_
    refine ops_yes rfl ?_
    refine ops_val (ex_move rfl) ?_
    refine ops_yes rfl ?_
    refine ops_false (ex_neq rfl rfl) (by decide) ?_
    refine ops_val (ex_pick_f rfl rfl) ?_
    refine ops_nil ?_
    refine nR153 ?_
    refine run_cond_false rfl ?_
    refine run_skip ?_
    refine run_seq ?_
    refine run_seq ?_
    refine run_region ?_
    refine ops_val (ex_assign rfl) ?_
    have h8a := hga.eight
    have h8b := hgb.eight
    obtain ⟨pa, hpa, hra, haa, h2a⟩ := id hx1
    obtain ⟨pb, hpb, hrb, hab, h2b⟩ := id hy1
    obtain ⟨a1, rfl⟩ := hra.some_ (by omega)
    obtain ⟨a2, rfl⟩ := hrb.some_ (by omega)
    have HB := H10
    replace H10 := HB.here
    have hkb : ∀ x, nE ≤ x → x < w8.heap.size → x ∉ bl [((some g5, 28, [.slice (some a1) a.groups.length x1, .slice X2 a.rights.length x2, .slice X3 a.last.length x3]) : Ent)] ∧ nE ≤ x := fun x hx _ => ⟨fun hb => (show False from by
      have h1 : g5 = x := by simpa using bl_one hb
      omega), hx⟩
    refine ops_nil ?_
    refine nR153 ?_
    refine run_block ?_
    refine run_loop (fun nQ lQ w => ∃ (i : Nat) (y0 : Int), 8 - i = nQ ∧ Fits [none, none, none, none, none, some (.pointer (some ⟨g5, 0, none⟩)), none, some (.pointer (some ⟨g7, 0, none⟩)), none, some (.int .i64 y0), none, none, none, none, none, none, none, none, none, none, none, none, none, none, none, none, none, none, none, none, none, none, none, none, none, none, none, none, none, none, none, none, none, none, none, none, none, none, none, none, none, none, none, none, none, none, none, none, none, none, none, none, none, none, none, none, none, none, none, none, none, none, none, none, none, none, none, none, none, none, none, none, none, none, none, none, none, none, none, none, none, none, none, none, none, none, none, none, none, none, none, none, none, none, none, none, none, none, none, none, none, none, none, none, none, none, none, none, none, none, none, none, none, none, none, none, none, none, none, none, none, none, none, none, none, none, none, none, none, none, none, none, none, none, none, none, none, none, none, none, none, none, none] lQ ∧ y0 = (i : Int) ∧ i ≤ 8 ∧ Hp w10 w (bl [((some g5, 28, [.slice (some a1) a.groups.length x1, .slice X2 a.rights.length x2, .slice X3 a.last.length x3]) : Ent), (some g7, 28, [.slice (some a2) b.groups.length y1, .slice Y2 b.rights.length y2, .slice Y3 b.last.length y3])]) [((some g5, 28, [.slice (some a1) a.groups.length x1, .slice X2 a.rights.length x2, .slice X3 a.last.length x3]) : Ent), (some g7, 28, [.slice (some a2) b.groups.length y1, .slice Y2 b.rights.length y2, .slice Y3 b.last.length y3])]) (8) ?_ ?_
    · exact ⟨0, _, rfl, (fn (fn (fn (fn (fn (fs (fn (fs (fn (fs (fn (fn (fn (fn (fn (fn (fn (fn (fn (fn (fn (fn (fn (fn (fn (fn (fn (fn (fn (fn (fn (fn (fn (fn (fn (fn (fn (fn (fn (fn (fn (fn (fn (fn (fn (fn (fn (fn (fn (fn (fn (fn (fn (fn (fn (fn (fn (fn (fn (fn (fn (fn (fn (fn (fn (fn (fn (fn (fn (fn (fn (fn (fn (fn (fn (fn (fn (fn (fn (fn (fn (fn (fn (fn (fn (fn (fn (fn (fn (fn (fn (fn (fn (fn (fn (fn (fn (fn (fn (fn (fn (fn (fn (fn (fn (fn (fn (fn (fn (fn (fn (fn (fn (fn (fn (fn (fn (fn (fn (fn (fn (fn (fn (fn (fn (fn (fn (fn (fn (fn (fn (fn (fn (fn (fn (fn (fn (fn (fn (fn (fn (fn (fn (fn (fn (fn (fn (fn (fn (fn (fn (fn (fn f0))))))))))))))))))))))))))))))))))))))))))))))))))))))))))))))))))))))))))))))))))))))))))))))))))))))))))))))))))))))))))))))))))))))))))))))))))))))))), rfl, by omega, H10⟩
    · rintro nQ lQ w11 ⟨i, y0, rfl, hfit, rfl, hi, H11⟩
      obtain ⟨j, rfl⟩ := hfit.open
      refine nR153 ?_
      clear hfit
      refine run_seq ?_
      refine run_seq ?_
      refine run_region ?_
      refine ops_val (ex_move rfl) ?_
      refine ops_test (ex_lss rfl rfl) (fun hp45 => ?_) (fun hp45 => ?_)
      · have hi8 : i < 8 := by omega
        obtain ⟨x, hxa⟩ := get_of (l := a.groups) (j := i) (by omega)
        obtain ⟨y, hyb⟩ := get_of (l := b.groups) (j := i) (by omega)
        have hge := hge9 i x y hxa hyb
        have hgp : ¬ (y.p.r < x.p.r ∨ (y.p.r = x.p.r ∧ y.p.n < x.p.n)) := hge.p
        have hgi := hge.i
        have hgl : x.index + (x.entries.length : Int) ≤ y.index + (y.entries.length : Int) := hge.l
        have hcx := (chk_iff x).1 (hga.chk x (mem_of hxa))
        have hcy := (chk_iff y).1 (hgb.chk y (mem_of hyb))
        have hcx1 := hcx.n
        have hcx2 := hcx.i.1
        have hcy1 := hcy.n
        have hcy2 := hcy.i.1
        have hv16x := vts_few hcx
        have hv16y := vts_few hcy
        obtain ⟨px, hpx1, hRx⟩ := h2a.get hxa
        obtain ⟨D1, e1, D2, e2, D3, e3, rfl, hvx, _, _⟩ := hRx
        obtain ⟨py, hpy1, hRy⟩ := h2b.get hyb
        obtain ⟨E1, f1, E2, f2, E3, f3, rfl, hvy, _, _⟩ := hRy
        obtain ⟨pvx, hpvx, hrvx, havx, h2vx⟩ := id hvx
        obtain ⟨pvy, hpvy, hrvy, havy, h2vy⟩ := id hvy
        refine ops_nil ?_
        refine nR153 ?_
        refine run_cond_true rfl ?_
        refine run_skip ?_
        refine run_seq ?_
        refine run_block ?_
        refine run_seq ?_
        refine run_mixT 13 (.p 0 (.p 1 (.p 2 (.p 3 (.p 4 (.p 5 (.p 6 (.p 7 (.p 8 (.p 9 (.two 10 (.o 11 (.o 12 (.o 13 .nil))) 11 (.o 10 (.o 12 (.o 13 .nil)))))))))))))) H11 [0, 1] mixed (by decide) (by kernel_rfl) ?_
        rintro w12 hw12
        have H12 := Hp.drew H11; rw [← hw12] at H12
        refine mixt_p rfl ?_
        refine mix1_val (fun wz hz => ex_fieldAddr fl28_0 rfl) ?_
        refine mixt_p rfl ?_
        refine mix1_val (fun wz hz => ex_load ty24 rfl (hz.cell (i := 0) rfl rfl)) ?_
        refine mixt_p rfl ?_
        refine mix1_val (fun wz hz => ex_move rfl) ?_
        refine mixt_p rfl ?_
        refine mix1_val (fun wz hz => ex_idx Try.underlying24 ty39 rfl rfl (len := a.groups.length) (i := i) (by omega) (by omega) rfl) ?_
        change MixT _ _ _ _ _ _ [_, _, _, _, _, _, _, _, _, _, _, _, _, _, _, _, _, _, _, _, _, _, _, _, _, _, _, _, _, _, _, _, _, _, _, _, _, _, _, _, _, _, _, _, _, _, _, _, _, _, _, _, _, _, _, _, _, _, _, _, _, _, _, _, _, _, _, _, _, _, _, _, _, _, _, _, _, _, _, _, _, _, _, _, _, _, _, _, _, _, _, _, _, _, _, _, _, _, _, _, _, _, _, _, _, _, _, _, _, _, _, _, _, _, _, _, _, _, _, _, _, _, _, _, _, _, _, _, _, _, _, _, _, _, _, _, _, _, _, _, _, _, _, _, _, _, _, _, _, _, _, _, _] _
        refine mixt_p rfl ?_
        refine mix1_val (fun wz hz => ex_loadN ty39 rfl (vs := [.int .i64 x.p.r, .int .i64 x.p.n, .slice D1 x.votes.length e1, .int .i64 x.index, .slice D2 x.image.length e2, .slice D3 x.entries.length e3]) rfl (((hra.move (by decide) haa (HQ.all (HB.all hz)) k0).1).elem hpa hpx1)) ?_
        refine mixt_p rfl ?_
        refine mix1_val (fun wz hz => ex_fieldAddr fl28_0 rfl) ?_
        refine mixt_p rfl ?_
        refine mix1_val (fun wz hz => ex_load ty24 rfl (hz.cell (i := 1) rfl rfl)) ?_
        refine mixt_p rfl ?_
        refine mix1_val (fun wz hz => ex_move rfl) ?_
        change MixT _ _ _ _ _ _ [_, _, _, _, _, _, _, _, _, _, _, _, _, _, _, _, _, _, _, _, _, _, _, _, _, _, _, _, _, _, _, _, _, _, _, _, _, _, _, _, _, _, _, _, _, _, _, _, _, _, _, _, _, _, _, _, _, _, _, _, _, _, _, _, _, _, _, _, _, _, _, _, _, _, _, _, _, _, _, _, _, _, _, _, _, _, _, _, _, _, _, _, _, _, _, _, _, _, _, _, _, _, _, _, _, _, _, _, _, _, _, _, _, _, _, _, _, _, _, _, _, _, _, _, _, _, _, _, _, _, _, _, _, _, _, _, _, _, _, _, _, _, _, _, _, _, _, _, _, _, _, _, _] _
        refine mixt_p rfl ?_
        refine mix1_val (fun wz hz => ex_idx Try.underlying24 ty39 rfl rfl (len := b.groups.length) (i := i) (by omega) (by omega) rfl) ?_
        refine mixt_p rfl ?_
        refine mix1_val (fun wz hz => ex_loadN ty39 rfl (vs := [.int .i64 y.p.r, .int .i64 y.p.n, .slice E1 y.votes.length f1, .int .i64 y.index, .slice E2 y.image.length f2, .slice E3 y.entries.length f3]) rfl (((hrb.move (by decide) hab (HB.all hz) hkb).1).elem hpb hpy1)) ?_
        refine mixt_two ?_ ?_
        · skip
          refine mixt_o rfl ?_
          refine ops_alloc ty39 H12 ?_
          intro w13 g10 H13 _
          refine ops_nil ?_
          refine ⟨fun hne => H13.pick [0, 1] (by decide), ?_⟩
          change MixT _ _ _ _ _ _ [_, _, _, _, _, _, _, _, _, _, _, _, _, _, _, _, _, _, _, _, _, _, _, _, _, _, _, _, _, _, _, _, _, _, _, _, _, _, _, _, _, _, _, _, _, _, _, _, _, _, _, _, _, _, _, _, _, _, _, _, _, _, _, _, _, _, _, _, _, _, _, _, _, _, _, _, _, _, _, _, _, _, _, _, _, _, _, _, _, _, _, _, _, _, _, _, _, _, _, _, _, _, _, _, _, _, _, _, _, _, _, _, _, _, _, _, _, _, _, _, _, _, _, _, _, _, _, _, _, _, _, _, _, _, _, _, _, _, _, _, _, _, _, _, _, _, _, _, _, _, _, _, _] _
          refine mixt_o rfl ?_
          refine ops_alloc ty39 H13 ?_
          intro w14 g11 H14 _
          refine ops_nil ?_
          refine ⟨fun hne => H14.pick [0, 1] (by decide), ?_⟩
          change MixT _ _ _ _ _ _ [_, _, _, _, _, _, _, _, _, _, _, _, _, _, _, _, _, _, _, _, _, _, _, _, _, _, _, _, _, _, _, _, _, _, _, _, _, _, _, _, _, _, _, _, _, _, _, _, _, _, _, _, _, _, _, _, _, _, _, _, _, _, _, _, _, _, _, _, _, _, _, _, _, _, _, _, _, _, _, _, _, _, _, _, _, _, _, _, _, _, _, _, _, _, _, _, _, _, _, _, _, _, _, _, _, _, _, _, _, _, _, _, _, _, _, _, _, _, _, _, _, _, _, _, _, _, _, _, _, _, _, _, _, _, _, _, _, _, _, _, _, _, _, _, _, _, _, _, _, _, _, _, _] _
          refine mixt_o rfl ?_
          refine ops_store ty39 H14 2 (vs := [.int .i64 x.p.r, .int .i64 x.p.n, .slice D1 x.votes.length e1, .int .i64 x.index, .slice D2 x.image.length e2, .slice D3 x.entries.length e3]) rfl rfl rfl rfl rfl (Nat.le_refl 6) rfl ?_
          intro w15 H15
          refine ops_nil ?_
          refine ⟨fun hne => H15.pick [0, 1] (by decide), ?_⟩
          change MixT _ _ _ _ _ _ [_, _, _, _, _, _, _, _, _, _, _, _, _, _, _, _, _, _, _, _, _, _, _, _, _, _, _, _, _, _, _, _, _, _, _, _, _, _, _, _, _, _, _, _, _, _, _, _, _, _, _, _, _, _, _, _, _, _, _, _, _, _, _, _, _, _, _, _, _, _, _, _, _, _, _, _, _, _, _, _, _, _, _, _, _, _, _, _, _, _, _, _, _, _, _, _, _, _, _, _, _, _, _, _, _, _, _, _, _, _, _, _, _, _, _, _, _, _, _, _, _, _, _, _, _, _, _, _, _, _, _, _, _, _, _, _, _, _, _, _, _, _, _, _, _, _, _, _, _, _, _, _, _] _
          refine mixt_o rfl ?_
          refine ops_store ty39 H15 3 (vs := [.int .i64 y.p.r, .int .i64 y.p.n, .slice E1 y.votes.length f1, .int .i64 y.index, .slice E2 y.image.length f2, .slice E3 y.entries.length f3]) rfl rfl rfl rfl rfl (Nat.le_refl 6) rfl ?_
          intro w16 H16
          refine ops_nil ?_
          refine ⟨fun hne => absurd rfl hne, ?_⟩
          change MixT _ _ _ _ _ _ [_, _, _, _, _, _, _, _, _, _, _, _, _, _, _, _, _, _, _, _, _, _, _, _, _, _, _, _, _, _, _, _, _, _, _, _, _, _, _, _, _, _, _, _, _, _, _, _, _, _, _, _, _, _, _, _, _, _, _, _, _, _, _, _, _, _, _, _, _, _, _, _, _, _, _, _, _, _, _, _, _, _, _, _, _, _, _, _, _, _, _, _, _, _, _, _, _, _, _, _, _, _, _, _, _, _, _, _, _, _, _, _, _, _, _, _, _, _, _, _, _, _, _, _, _, _, _, _, _, _, _, _, _, _, _, _, _, _, _, _, _, _, _, _, _, _, _, _, _, _, _, _, _] _
          refine mixt_nil ?_
          refine nR153 ?_
          refine run_seq ?_
          refine run_region ?_
          refine ops_val (ex_fieldAddr fl39_2 rfl) ?_
          refine ops_val (ex_load ty3 rfl (H16.cell (i := 3) rfl rfl)) ?_
          refine ops_val (ex_fieldAddr fl39_4 rfl) ?_
          refine ops_val (ex_load ty37 rfl (H16.cell (i := 3) rfl rfl)) ?_
          refine nO153 ?_
          refine ops_val (ex_len_slice Try.underlying37 rfl) ?_
          refine ops_val (ex_add rfl rfl (IntWalk.i64_in _ (by omega))) ?_
          refine ops_val (ex_assign rfl) ?_
          refine ops_nil ?_
          refine nR153 ?_
          refine run_seq ?_
          refine run_seq ?_
          refine run_region ?_
          refine ops_val (ex_fieldAddr fl39_0 rfl) ?_
          refine ops_val (ex_fieldAddr fl34_0 rfl) ?_
          refine ops_val (ex_load ty3 rfl (H16.cell (i := 3) rfl rfl)) ?_
          refine ops_val (ex_fieldAddr fl39_0 rfl) ?_
          refine nO153 ?_
          refine ops_val (ex_fieldAddr fl34_0 rfl) ?_
          refine ops_val (ex_load ty3 rfl (H16.cell (i := 2) rfl rfl)) ?_
          refine ops_false (ex_lss rfl rfl) (by omega) ?_
          refine ops_val (ex_move rfl) ?_
          refine nO153 ?_
          refine ops_yes rfl ?_
          refine ops_val (ex_fieldAddr fl39_0 rfl) ?_
          refine ops_yes rfl ?_
          refine ops_val (ex_fieldAddr fl34_0 rfl) ?_
          refine nO153 ?_
          refine ops_yes rfl ?_
          refine ops_val (ex_load ty3 rfl (H16.cell (i := 3) rfl rfl)) ?_
          refine ops_yes rfl ?_
          refine ops_val (ex_fieldAddr fl39_0 rfl) ?_
          refine nO153 ?_
          refine ops_yes rfl ?_
          refine ops_val (ex_fieldAddr fl34_0 rfl) ?_
          refine ops_yes rfl ?_
          refine ops_val (ex_load ty3 rfl (H16.cell (i := 2) rfl rfl)) ?_
          refine nO153 ?_
          refine ops_yes rfl ?_
          refine ops_test (ex_eql rfl rfl) (fun hp78 => ?_) (fun hp78 => ?_)
          · skip
            refine ops_yes rfl ?_
            refine ops_val (ex_move rfl) ?_
            refine ops_yes rfl ?_
            refine ops_val (ex_fieldAddr fl39_0 rfl) ?_
            refine nO153 ?_
            refine ops_yes rfl ?_
            refine ops_val (ex_fieldAddr fl34_1 rfl) ?_
            refine ops_yes rfl ?_
            refine ops_val (ex_load ty3 rfl (H16.cell (i := 3) rfl rfl)) ?_
            refine nO153 ?_
            refine ops_yes rfl ?_
            refine ops_val (ex_fieldAddr fl39_0 rfl) ?_
            refine ops_yes rfl ?_
            refine ops_val (ex_fieldAddr fl34_1 rfl) ?_
            refine nO153 ?_
            refine ops_yes rfl ?_
            refine ops_val (ex_load ty3 rfl (H16.cell (i := 2) rfl rfl)) ?_
            refine ops_yes rfl ?_
            refine ops_false (ex_lss rfl rfl) (by omega) ?_
            refine nO153 ?_
            refine ops_yes rfl ?_
            refine ops_val (ex_pick_t rfl rfl) ?_
            refine ops_val (ex_pick_f rfl rfl) ?_
            refine ops_val (ex_move rfl) ?_
            refine nO153 ?_
            refine ops_yes rfl ?_
            refine ops_val (ex_move rfl) ?_
            refine ops_yes rfl ?_
            refine ops_val (ex_fieldAddr fl39_2 rfl) ?_
            refine nO153 ?_
            refine ops_yes rfl ?_
            refine ops_val (ex_load ty3 rfl (H16.cell (i := 2) rfl rfl)) ?_
            refine ops_yes rfl ?_
            refine ops_val (ex_fieldAddr fl39_4 rfl) ?_
            refine nO153 ?_
            refine ops_yes rfl ?_
            refine ops_val (ex_load ty37 rfl (H16.cell (i := 2) rfl rfl)) ?_
            refine ops_yes rfl ?_
            refine ops_val (ex_len_slice Try.underlying37 rfl) ?_
            refine nO153 ?_
            refine ops_yes rfl ?_
            refine ops_val (ex_add rfl rfl (IntWalk.i64_in _ (by omega))) ?_
            refine ops_yes rfl ?_
            refine ops_false (ex_lss rfl rfl) (by omega) ?_
            refine nO153 ?_
            refine ops_yes rfl ?_
            refine ops_val (ex_move rfl) ?_
            refine ops_no rfl ?_
            refine nO153 ?_
            refine ops_no rfl ?_
            refine ops_no rfl ?_
            refine nO153 ?_
            refine ops_no rfl ?_
            refine ops_no rfl ?_
            refine nO153 ?_
            refine ops_yes rfl ?_
            refine ops_val (ex_pick_f rfl rfl) ?_
            refine ops_val (ex_pick_f rfl rfl) ?_
            refine ops_val (ex_move rfl) ?_
            refine nO153 ?_
            refine ops_yes rfl ?_
            refine ops_val (ex_fieldAddr fl39_2 rfl) ?_
            refine ops_yes rfl ?_
            refine ops_val (ex_load ty3 rfl (H16.cell (i := 3) rfl rfl)) ?_
            refine nO153 ?_
            refine ops_yes rfl ?_
            refine ops_val (ex_fieldAddr fl39_2 rfl) ?_
            refine ops_yes rfl ?_
            refine ops_val (ex_load ty3 rfl (H16.cell (i := 2) rfl rfl)) ?_
            refine nO153 ?_
            refine ops_yes rfl ?_
            refine ops_false (ex_lss rfl rfl) (by omega) ?_
            refine ops_val (ex_pick_f rfl rfl) ?_
            refine ops_nil ?_
            refine nR153 ?_
            refine run_cond_false rfl ?_
            refine run_skip ?_
            refine run_seq ?_
            refine run_region ?_
            refine ops_val (ex_assign rfl) ?_
            refine ops_nil ?_
            refine nR153 ?_
            refine run_block ?_
            refine run_loop (fun nQ lQ w => ∃ (q : Nat) (z : Int), x.votes.length - q = nQ ∧ Fits [none, none, none, none, none, some (.pointer (some ⟨g5, 0, none⟩)), none, some (.pointer (some ⟨g7, 0, none⟩)), none, some (.int .i64 (i : Int)), some (.pointer (some ⟨g10, 0, none⟩)), some (.pointer (some ⟨g11, 0, none⟩)), some (.int .i64 (y.index + (y.entries.length : Int))), some (.int .i64 z), none, none, none, none, none, none, none, none, none, none, none, none, none, none, none, none, none, none, none, none, none, none, none, none, none, none, none, none, none, none, none, none, none, none, none, none, none, none, none, none, none, none, none, none, none, none, none, none, none, none, none, none, none, none, none, none, none, none, none, none, none, none, none, none, none, none, none, none, none, none, none, none, none, none, none, none, none, none, none, none, none, none, none, none, none, none, none, none, none, none, none, none, none, none, none, none, none, none, none, none, none, none, none, none, none, none, none, none, none, none, none, none, none, none, none, none, none, none, none, none, none, none, none, none, none, none, none, none, none, none, none, none, none, none, none, none, none, none, none] lQ ∧ z = (q : Int) ∧ q ≤ x.votes.length ∧ Hp w10 w (bl [((some g5, 28, [.slice (some a1) a.groups.length x1, .slice X2 a.rights.length x2, .slice X3 a.last.length x3]) : Ent), (some g7, 28, [.slice (some a2) b.groups.length y1, .slice Y2 b.rights.length y2, .slice Y3 b.last.length y3])]) [((some g5, 28, [.slice (some a1) a.groups.length x1, .slice X2 a.rights.length x2, .slice X3 a.last.length x3]) : Ent), (some g7, 28, [.slice (some a2) b.groups.length y1, .slice Y2 b.rights.length y2, .slice Y3 b.last.length y3]), (some g10, 39, [.int .i64 x.p.r, .int .i64 x.p.n, .slice D1 x.votes.length e1, .int .i64 x.index, .slice D2 x.image.length e2, .slice D3 x.entries.length e3]), (some g11, 39, [.int .i64 y.p.r, .int .i64 y.p.n, .slice E1 y.votes.length f1, .int .i64 y.index, .slice E2 y.image.length f2, .slice E3 y.entries.length f3])]) (x.votes.length) ?_ ?_
            · exact ⟨0, _, rfl, (fn (fn (fn (fn (fn (fs (fn (fs (fn (fs (fs (fs (fs (fs (fn (fn (fn (fn (fn (fn (fn (fn (fn (fn (fn (fn (fn (fn (fn (fn (fn (fn (fn (fn (fn (fn (fn (fn (fn (fn (fn (fn (fn (fn (fn (fn (fn (fn (fn (fn (fn (fn (fn (fn (fn (fn (fn (fn (fn (fn (fn (fn (fn (fn (fn (fn (fn (fn (fn (fn (fn (fn (fn (fn (fn (fn (fn (fn (fn (fn (fn (fn (fn (fn (fn (fn (fn (fn (fn (fn (fn (fn (fn (fn (fn (fn (fn (fn (fn (fn (fn (fn (fn (fn (fn (fn (fn (fn (fn (fn (fn (fn (fn (fn (fn (fn (fn (fn (fn (fn (fn (fn (fn (fn (fn (fn (fn (fn (fn (fn (fn (fn (fn (fn (fn (fn (fn (fn (fn (fn (fn (fn (fn (fn (fn (fn (fn (fn (fn (fn (fn (fn (fn f0))))))))))))))))))))))))))))))))))))))))))))))))))))))))))))))))))))))))))))))))))))))))))))))))))))))))))))))))))))))))))))))))))))))))))))))))))))))))), rfl, Nat.zero_le _, H16⟩
            · rintro nQ lQ w17 ⟨q, z, rfl, hfit, rfl, hq, H17⟩
              obtain ⟨j, rfl⟩ := hfit.open
              refine nR153 ?_
              clear hfit
              refine run_seq ?_
              refine run_seq ?_
              refine run_region ?_
              refine ops_val (ex_move rfl) ?_
              refine ops_val (ex_fieldAddr fl39_1 rfl) ?_
              refine ops_val (ex_load ty35 rfl (H17.cell (i := 2) rfl rfl)) ?_
              refine ops_val (ex_len_slice Try.underlying35 rfl) ?_
              refine nO153 ?_
              refine ops_test (ex_lss rfl rfl) (fun hp117 => ?_) (fun hp117 => ?_)
              · have hqv : q < x.votes.length := by omega
                obtain ⟨u, hxu⟩ := get_of hqv
                obtain ⟨pu, hpu1, hRu⟩ := h2vx.get hxu
                obtain ⟨G1, t1, rfl, _⟩ := hRu
                obtain ⟨b1, hb1⟩ := hrvx.some_ (by omega)
                subst hb1
                have hgu := hge.v u (mem_of hxu)
                refine ops_nil ?_
                refine nR153 ?_
                refine run_cond_true rfl ?_
                refine run_skip ?_
                refine run_seq ?_
                refine run_block ?_
                refine run_seq ?_
                refine run_region ?_
                refine ops_val (ex_fieldAddr fl39_1 rfl) ?_
                refine ops_val (ex_load ty35 rfl (H17.cell (i := 2) rfl rfl)) ?_
                refine ops_val (ex_move rfl) ?_
                refine ops_val (ex_idx Try.underlying35 ty41 rfl rfl rfl hqv rfl) ?_
                refine nO153 ?_
                refine ops_val (ex_fieldAddrA fl41_0 rfl) ?_
                refine ops_val (ex_load ty3 rfl ((((hrvx.move (by decide) havx (HQ.all (HB.all H17)) k0).1).elem hpvx hpu1) 0 _ rfl)) ?_
                refine ops_val (ex_move rfl) ?_
                refine ops_test (ex_leq rfl rfl) (fun hp127 => ?_) (fun hp127 => ?_)
                · skip
                  refine ops_val (ex_assign rfl) ?_
                  refine ops_nil ?_
                  refine nR153 ?_
                  refine run_seq ?_
                  refine run_seq ?_
                  refine run_region ?_
                  refine ops_val (ex_assign rfl) ?_
                  refine ops_nil ?_
                  refine nR153 ?_
                  refine run_block ?_
                  refine run_loop (fun nQ lQ w => ∃ (r : Nat) (z : Int), y.votes.length - r = nQ ∧ Fits [none, none, none, none, none, some (.pointer (some ⟨g5, 0, none⟩)), none, some (.pointer (some ⟨g7, 0, none⟩)), none, some (.int .i64 (i : Int)), some (.pointer (some ⟨g10, 0, none⟩)), some (.pointer (some ⟨g11, 0, none⟩)), some (.int .i64 (y.index + (y.entries.length : Int))), some (.int .i64 (q : Int)), some (.bool true), some (.int .i64 z), none, none, none, none, none, none, none, none, none, none, none, none, none, none, none, none, none, none, none, none, none, none, none, none, none, none, none, none, none, none, none, none, none, none, none, none, none, none, none, none, none, none, none, none, none, none, none, none, none, none, none, none, none, none, none, none, none, none, none, none, none, none, none, none, none, none, none, none, none, none, none, none, none, none, none, none, none, none, none, none, none, none, none, none, none, none, none, none, none, none, none, none, none, none, none, none, none, none, none, none, none, none, none, none, none, none, none, none, none, none, none, none, none, none, none, none, none, none, none, none, none, none, none, none, none, none, none, none, none, none, none, none, none, none, none, none, none] lQ ∧ z = (r : Int) ∧ r ≤ y.votes.length ∧ Hp w10 w (bl [((some g5, 28, [.slice (some a1) a.groups.length x1, .slice X2 a.rights.length x2, .slice X3 a.last.length x3]) : Ent), (some g7, 28, [.slice (some a2) b.groups.length y1, .slice Y2 b.rights.length y2, .slice Y3 b.last.length y3])]) [((some g5, 28, [.slice (some a1) a.groups.length x1, .slice X2 a.rights.length x2, .slice X3 a.last.length x3]) : Ent), (some g7, 28, [.slice (some a2) b.groups.length y1, .slice Y2 b.rights.length y2, .slice Y3 b.last.length y3]), (some g10, 39, [.int .i64 x.p.r, .int .i64 x.p.n, .slice (some b1) x.votes.length e1, .int .i64 x.index, .slice D2 x.image.length e2, .slice D3 x.entries.length e3]), (some g11, 39, [.int .i64 y.p.r, .int .i64 y.p.n, .slice E1 y.votes.length f1, .int .i64 y.index, .slice E2 y.image.length f2, .slice E3 y.entries.length f3])]) (y.votes.length) ?_ ?_
                  · exact ⟨0, _, rfl, (fn (fn (fn (fn (fn (fs (fn (fs (fn (fs (fs (fs (fs (fs (fs (fs (fn (fn (fn (fn (fn (fn (fn (fn (fn (fn (fn (fn (fn (fn (fn (fn (fn (fn (fn (fn (fn (fn (fn (fn (fn (fn (fn (fn (fn (fn (fn (fn (fn (fn (fn (fn (fn (fn (fn (fn (fn (fn (fn (fn (fn (fn (fn (fn (fn (fn (fn (fn (fn (fn (fn (fn (fn (fn (fn (fn (fn (fn (fn (fn (fn (fn (fn (fn (fn (fn (fn (fn (fn (fn (fn (fn (fn (fn (fn (fn (fn (fn (fn (fn (fn (fn (fn (fn (fn (fn (fn (fn (fn (fn (fn (fn (fn (fn (fn (fn (fn (fn (fn (fn (fn (fn (fn (fn (fn (fn (fn (fn (fn (fn (fn (fn (fn (fn (fn (fn (fn (fn (fn (fn (fn (fn (fn (fn (fn (fn (fn (fn (fn (fn (fn (fn (fn f0))))))))))))))))))))))))))))))))))))))))))))))))))))))))))))))))))))))))))))))))))))))))))))))))))))))))))))))))))))))))))))))))))))))))))))))))))))))))), rfl, Nat.zero_le _, H17⟩
                  · rintro nQ lQ w18 ⟨r, z, rfl, hfit, rfl, hr, H18⟩
                    obtain ⟨j, rfl⟩ := hfit.open
                    refine nR153 ?_
                    clear hfit
                    refine run_seq ?_
                    refine run_seq ?_
                    refine run_region ?_
                    refine ops_val (ex_move rfl) ?_
                    refine ops_val (ex_fieldAddr fl39_1 rfl) ?_
                    refine ops_val (ex_load ty35 rfl (H18.cell (i := 3) rfl rfl)) ?_
                    refine ops_val (ex_len_slice Try.underlying35 rfl) ?_
                    refine nO153 ?_
                    refine ops_test (ex_lss rfl rfl) (fun hp132 => ?_) (fun hp132 => ?_)
                    · have hrv : r < y.votes.length := by omega
                      obtain ⟨uz, hyu⟩ := get_of hrv
                      obtain ⟨pz, hpz1, hRz⟩ := h2vy.get hyu
                      obtain ⟨G2, t2, rfl, _⟩ := hRz
                      obtain ⟨b2, hb2⟩ := hrvy.some_ (by omega)
                      subst hb2
                      refine ops_nil ?_
                      refine nR153 ?_
                      refine run_cond_true rfl ?_
                      refine run_skip ?_
                      refine run_seq ?_
                      refine run_block ?_
                      refine run_still mixed (by kernel_rfl) ?_
                      rintro w19 hw19
                      have H19 := Hp.drew H18; rw [← hw19] at H19
                      refine still_val (ex_move rfl) ?_
                      refine still_val (ex_move rfl) ?_
                      refine nS153 ?_
                      refine still_no rfl ?_
                      refine still_no rfl ?_
                      refine nS153 ?_
                      refine still_no rfl ?_
                      refine still_no rfl ?_
                      refine nS153 ?_
                      refine still_no rfl ?_
                      refine still_no rfl ?_
                      refine nS153 ?_
                      refine still_no rfl ?_
                      refine still_no rfl ?_
                      refine nS153 ?_
                      refine still_no rfl ?_
                      refine still_no rfl ?_
                      refine nS153 ?_
                      refine still_no rfl ?_
                      refine still_no rfl ?_
                      refine nS153 ?_
                      refine still_no rfl ?_
                      refine still_val (ex_pick_t rfl rfl) ?_
                      refine still_val (ex_assign rfl) ?_
                      refine still_nil ?_
                      refine nR153 ?_
                      refine run_nil (blk_normal ?_)
                      refine run_region ?_
                      refine ops_val (ex_move rfl) ?_
                      refine ops_val (ex_add rfl rfl (IntWalk.i64_in _ (by omega))) ?_
                      refine ops_val (ex_assign rfl) ?_
                      refine ops_nil ?_
                      refine nR153 ?_
                      refine run_nil (rnd_normal ?_)
                      exact ⟨y.votes.length - (r + 1), by omega, r + 1, _, rfl, (fn (fn (fn (fn (fn (fs (fn (fs (fn (fs (fs (fs (fs (fs (fs (fs (fn (fn (fn (fn (fn (fn (fn (fn (fn (fn (fn (fn (fn (fn (fn (fn (fn (fn (fn (fn (fn (fn (fn (fn (fn (fn (fn (fn (fn (fn (fn (fn (fn (fn (fn (fn (fn (fn (fn (fn (fn (fn (fn (fn (fn (fn (fn (fn (fn (fn (fn (fn (fn (fn (fn (fn (fn (fn (fn (fn (fn (fn (fn (fn (fn (fn (fn (fn (fn (fn (fn (fn (fn (fn (fn (fn (fn (fn (fn (fn (fn (fn (fn (fn (fn (fn (fn (fn (fn (fn (fn (fn (fn (fn (fn (fn (fn (fn (fn (fn (fn (fn (fn (fn (fn (fn (fn (fn (fn (fn (fn (fn (fn (fn (fn (fn (fn (fn (fn (fn (fn (fn (fn (fn (fn (fn (fn (fn (fn (fn (fn (fn (fn (fn (fn (fn (fn f0))))))))))))))))))))))))))))))))))))))))))))))))))))))))))))))))))))))))))))))))))))))))))))))))))))))))))))))))))))))))))))))))))))))))))))))))))))))))), by omega, by omega, H19⟩
                    · skip
                      refine ops_nil ?_
                      refine nR153 ?_
                      refine run_cond_false rfl ?_
                      refine run_exit ?_
                      refine rnd_exit ?_
                      refine blk_exit ?_
                      refine run_seq ?_
                      refine run_region ?_
                      refine ops_val (ex_move rfl) ?_
                      refine ops_val (ex_not rfl) ?_
                      refine ops_nil ?_
                      refine nR153 ?_
                      refine run_cond_false rfl ?_
                      refine run_skip ?_
                      refine run_nil (blk_normal ?_)
                      refine run_region ?_
                      refine ops_val (ex_move rfl) ?_
                      refine ops_val (ex_add rfl rfl (IntWalk.i64_in _ (by omega))) ?_
                      refine ops_val (ex_assign rfl) ?_
                      refine ops_nil ?_
                      refine nR153 ?_
                      refine run_nil (rnd_normal ?_)
                      exact ⟨x.votes.length - (q + 1), by omega, q + 1, _, rfl, (fn (fn (fn (fn (fn (fs (fn (fs (fn (fs (fs (fs (fs (fs (fn (fn (fn (fn (fn (fn (fn (fn (fn (fn (fn (fn (fn (fn (fn (fn (fn (fn (fn (fn (fn (fn (fn (fn (fn (fn (fn (fn (fn (fn (fn (fn (fn (fn (fn (fn (fn (fn (fn (fn (fn (fn (fn (fn (fn (fn (fn (fn (fn (fn (fn (fn (fn (fn (fn (fn (fn (fn (fn (fn (fn (fn (fn (fn (fn (fn (fn (fn (fn (fn (fn (fn (fn (fn (fn (fn (fn (fn (fn (fn (fn (fn (fn (fn (fn (fn (fn (fn (fn (fn (fn (fn (fn (fn (fn (fn (fn (fn (fn (fn (fn (fn (fn (fn (fn (fn (fn (fn (fn (fn (fn (fn (fn (fn (fn (fn (fn (fn (fn (fn (fn (fn (fn (fn (fn (fn (fn (fn (fn (fn (fn (fn (fn (fn (fn (fn (fn (fn (fn f0))))))))))))))))))))))))))))))))))))))))))))))))))))))))))))))))))))))))))))))))))))))))))))))))))))))))))))))))))))))))))))))))))))))))))))))))))))))))), by omega, by omega, H18⟩
                · obtain ⟨uy, huy, huys⟩ := hgu.resolve_left hp127
                  obtain ⟨kz, hkz⟩ := List.getElem?_of_mem huy
                  have hkzl := (List.getElem?_eq_some_iff.1 hkz).1
                  refine ops_val (ex_assign rfl) ?_
                  refine ops_nil ?_
                  refine nR153 ?_
                  refine run_seq ?_
                  refine run_seq ?_
                  refine run_region ?_
                  refine ops_val (ex_assign rfl) ?_
                  refine ops_nil ?_
                  refine nR153 ?_
                  refine run_block ?_
                  refine run_loop (fun nQ lQ w => ∃ (r : Nat) (z : Int) (c : Bool), y.votes.length - r = nQ ∧ Fits [none, none, none, none, none, some (.pointer (some ⟨g5, 0, none⟩)), none, some (.pointer (some ⟨g7, 0, none⟩)), none, some (.int .i64 (i : Int)), some (.pointer (some ⟨g10, 0, none⟩)), some (.pointer (some ⟨g11, 0, none⟩)), some (.int .i64 (y.index + (y.entries.length : Int))), some (.int .i64 (q : Int)), some (.bool c), some (.int .i64 z), none, none, none, none, none, none, none, none, none, none, none, none, none, none, none, none, none, none, none, none, none, none, none, none, none, none, none, none, none, none, none, none, none, none, none, none, none, none, none, none, none, none, none, none, none, none, none, none, none, none, none, none, none, none, none, none, none, none, none, none, none, none, none, none, none, none, none, none, none, none, none, none, none, none, none, none, none, none, none, none, none, none, none, none, none, none, none, none, none, none, none, none, none, none, none, none, none, none, none, none, none, none, none, none, none, none, none, none, none, none, none, none, none, none, none, none, none, none, none, none, none, none, none, none, none, none, none, none, none, none, none, none, none, none, none, none, none] lQ ∧ z = (r : Int) ∧ r ≤ y.votes.length ∧ (kz < r → c = true) ∧ Hp w10 w (bl [((some g5, 28, [.slice (some a1) a.groups.length x1, .slice X2 a.rights.length x2, .slice X3 a.last.length x3]) : Ent), (some g7, 28, [.slice (some a2) b.groups.length y1, .slice Y2 b.rights.length y2, .slice Y3 b.last.length y3])]) [((some g5, 28, [.slice (some a1) a.groups.length x1, .slice X2 a.rights.length x2, .slice X3 a.last.length x3]) : Ent), (some g7, 28, [.slice (some a2) b.groups.length y1, .slice Y2 b.rights.length y2, .slice Y3 b.last.length y3]), (some g10, 39, [.int .i64 x.p.r, .int .i64 x.p.n, .slice (some b1) x.votes.length e1, .int .i64 x.index, .slice D2 x.image.length e2, .slice D3 x.entries.length e3]), (some g11, 39, [.int .i64 y.p.r, .int .i64 y.p.n, .slice E1 y.votes.length f1, .int .i64 y.index, .slice E2 y.image.length f2, .slice E3 y.entries.length f3])]) (y.votes.length) ?_ ?_
                  · exact ⟨0, _, false, rfl, (fn (fn (fn (fn (fn (fs (fn (fs (fn (fs (fs (fs (fs (fs (fs (fs (fn (fn (fn (fn (fn (fn (fn (fn (fn (fn (fn (fn (fn (fn (fn (fn (fn (fn (fn (fn (fn (fn (fn (fn (fn (fn (fn (fn (fn (fn (fn (fn (fn (fn (fn (fn (fn (fn (fn (fn (fn (fn (fn (fn (fn (fn (fn (fn (fn (fn (fn (fn (fn (fn (fn (fn (fn (fn (fn (fn (fn (fn (fn (fn (fn (fn (fn (fn (fn (fn (fn (fn (fn (fn (fn (fn (fn (fn (fn (fn (fn (fn (fn (fn (fn (fn (fn (fn (fn (fn (fn (fn (fn (fn (fn (fn (fn (fn (fn (fn (fn (fn (fn (fn (fn (fn (fn (fn (fn (fn (fn (fn (fn (fn (fn (fn (fn (fn (fn (fn (fn (fn (fn (fn (fn (fn (fn (fn (fn (fn (fn (fn (fn (fn (fn (fn (fn f0))))))))))))))))))))))))))))))))))))))))))))))))))))))))))))))))))))))))))))))))))))))))))))))))))))))))))))))))))))))))))))))))))))))))))))))))))))))))), rfl, Nat.zero_le _, (fun h => by omega), H17⟩
                  · rintro nQ lQ w18 ⟨r, z, c, rfl, hfit, rfl, hr, hc, H18⟩
                    obtain ⟨j, rfl⟩ := hfit.open
                    refine nR153 ?_
                    clear hfit
                    refine run_seq ?_
                    refine run_seq ?_
                    refine run_region ?_
                    refine ops_val (ex_move rfl) ?_
                    refine ops_val (ex_fieldAddr fl39_1 rfl) ?_
                    refine ops_val (ex_load ty35 rfl (H18.cell (i := 3) rfl rfl)) ?_
                    refine ops_val (ex_len_slice Try.underlying35 rfl) ?_
                    refine nO153 ?_
                    refine ops_test (ex_lss rfl rfl) (fun hp132 => ?_) (fun hp132 => ?_)
                    · have hrv : r < y.votes.length := by omega
                      obtain ⟨uz, hyu⟩ := get_of hrv
                      obtain ⟨pz, hpz1, hRz⟩ := h2vy.get hyu
                      obtain ⟨G2, t2, rfl, _⟩ := hRz
                      obtain ⟨b2, hb2⟩ := hrvy.some_ (by omega)
                      subst hb2
                      refine ops_nil ?_
                      refine nR153 ?_
                      refine run_cond_true rfl ?_
                      refine run_skip ?_
                      refine run_seq ?_
                      refine run_block ?_
                      cases c
                      · skip
                        refine run_still mixed (by kernel_rfl) ?_
                        rintro w19 hw19
                        have H19 := Hp.drew H18; rw [← hw19] at H19
                        refine still_val (ex_move rfl) ?_
                        refine still_val (ex_move rfl) ?_
                        refine nS153 ?_
                        refine still_yes rfl ?_
                        refine still_val (ex_fieldAddr fl39_1 rfl) ?_
                        refine still_yes rfl ?_
                        refine still_val (ex_load ty35 rfl (H19.cell (i := 3) rfl rfl)) ?_
                        refine nS153 ?_
                        refine still_yes rfl ?_
                        refine still_val (ex_move rfl) ?_
                        refine still_yes rfl ?_
                        refine still_val (ex_idx Try.underlying35 ty41 rfl rfl rfl hrv rfl) ?_
                        refine nS153 ?_
                        refine still_yes rfl ?_
                        refine still_val (ex_fieldAddrA fl41_0 rfl) ?_
                        refine still_yes rfl ?_
                        refine still_val (ex_load ty3 rfl ((((hrvy.move (by decide) havy (HB.all H19) hkb).1).elem hpvy hpz1) 0 _ rfl)) ?_
                        refine nS153 ?_
                        refine still_yes rfl ?_
                        refine still_val (ex_fieldAddr fl39_1 rfl) ?_
                        refine still_yes rfl ?_
                        refine still_val (ex_load ty35 rfl (H19.cell (i := 2) rfl rfl)) ?_
                        refine nS153 ?_
                        refine still_yes rfl ?_
                        refine still_val (ex_move rfl) ?_
                        refine still_yes rfl ?_
                        refine still_val (ex_idx Try.underlying35 ty41 rfl rfl rfl hqv rfl) ?_
                        refine nS153 ?_
                        refine still_yes rfl ?_
                        refine still_val (ex_fieldAddrA fl41_0 rfl) ?_
                        refine still_yes rfl ?_
                        refine still_val (ex_load ty3 rfl ((((hrvx.move (by decide) havx (HQ.all (HB.all H19)) k0).1).elem hpvx hpu1) 0 _ rfl)) ?_
                        refine nS153 ?_
                        refine still_yes rfl ?_
                        refine still_test (ex_eql rfl rfl) (fun hp149 => ?_) (fun hp149 => ?_)
                        · skip
                          refine still_val (ex_pick_f rfl rfl) ?_
                          refine still_val (ex_assign rfl) ?_
                          refine still_nil ?_
                          refine nR153 ?_
                          refine run_nil (blk_normal ?_)
                          refine run_region ?_
                          refine ops_val (ex_move rfl) ?_
                          refine ops_val (ex_add rfl rfl (IntWalk.i64_in _ (by omega))) ?_
                          refine ops_val (ex_assign rfl) ?_
                          refine ops_nil ?_
                          refine nR153 ?_
                          refine run_nil (rnd_normal ?_)
                          exact ⟨y.votes.length - (r + 1), by omega, r + 1, _, true, rfl, (fn (fn (fn (fn (fn (fs (fn (fs (fn (fs (fs (fs (fs (fs (fs (fs (fn (fn (fn (fn (fn (fn (fn (fn (fn (fn (fn (fn (fn (fn (fn (fn (fn (fn (fn (fn (fn (fn (fn (fn (fn (fn (fn (fn (fn (fn (fn (fn (fn (fn (fn (fn (fn (fn (fn (fn (fn (fn (fn (fn (fn (fn (fn (fn (fn (fn (fn (fn (fn (fn (fn (fn (fn (fn (fn (fn (fn (fn (fn (fn (fn (fn (fn (fn (fn (fn (fn (fn (fn (fn (fn (fn (fn (fn (fn (fn (fn (fn (fn (fn (fn (fn (fn (fn (fn (fn (fn (fn (fn (fn (fn (fn (fn (fn (fn (fn (fn (fn (fn (fn (fn (fn (fn (fn (fn (fn (fn (fn (fn (fn (fn (fn (fn (fn (fn (fn (fn (fn (fn (fn (fn (fn (fn (fn (fn (fn (fn (fn (fn (fn (fn (fn (fn f0))))))))))))))))))))))))))))))))))))))))))))))))))))))))))))))))))))))))))))))))))))))))))))))))))))))))))))))))))))))))))))))))))))))))))))))))))))))))), by omega, by omega, fun _ => rfl, H19⟩
                        · skip
                          refine still_val (ex_pick_f rfl rfl) ?_
                          refine still_val (ex_assign rfl) ?_
                          refine still_nil ?_
                          refine nR153 ?_
                          refine run_nil (blk_normal ?_)
                          refine run_region ?_
                          refine ops_val (ex_move rfl) ?_
                          refine ops_val (ex_add rfl rfl (IntWalk.i64_in _ (by omega))) ?_
                          refine ops_val (ex_assign rfl) ?_
                          refine ops_nil ?_
                          refine nR153 ?_
                          refine run_nil (rnd_normal ?_)
                          exact ⟨y.votes.length - (r + 1), by omega, r + 1, _, false, rfl, (fn (fn (fn (fn (fn (fs (fn (fs (fn (fs (fs (fs (fs (fs (fs (fs (fn (fn (fn (fn (fn (fn (fn (fn (fn (fn (fn (fn (fn (fn (fn (fn (fn (fn (fn (fn (fn (fn (fn (fn (fn (fn (fn (fn (fn (fn (fn (fn (fn (fn (fn (fn (fn (fn (fn (fn (fn (fn (fn (fn (fn (fn (fn (fn (fn (fn (fn (fn (fn (fn (fn (fn (fn (fn (fn (fn (fn (fn (fn (fn (fn (fn (fn (fn (fn (fn (fn (fn (fn (fn (fn (fn (fn (fn (fn (fn (fn (fn (fn (fn (fn (fn (fn (fn (fn (fn (fn (fn (fn (fn (fn (fn (fn (fn (fn (fn (fn (fn (fn (fn (fn (fn (fn (fn (fn (fn (fn (fn (fn (fn (fn (fn (fn (fn (fn (fn (fn (fn (fn (fn (fn (fn (fn (fn (fn (fn (fn (fn (fn (fn (fn (fn (fn f0))))))))))))))))))))))))))))))))))))))))))))))))))))))))))))))))))))))))))))))))))))))))))))))))))))))))))))))))))))))))))))))))))))))))))))))))))))))))), by omega, by omega, fun hk => (show False from by
                            rcases Nat.lt_or_ge kz r with h1 | h1
                            · exact absurd (hc h1) (by decide)
                            · obtain rfl : kz = r := by omega
                              rw [hyu] at hkz
                              cases hkz
                              exact hp149 huys).elim, H19⟩
                      · skip
                        refine run_still mixed (by kernel_rfl) ?_
                        rintro w19 hw19
                        have H19 := Hp.drew H18; rw [← hw19] at H19
                        refine still_val (ex_move rfl) ?_
                        refine still_val (ex_move rfl) ?_
                        refine nS153 ?_
                        refine still_no rfl ?_
                        refine still_no rfl ?_
                        refine nS153 ?_
                        refine still_no rfl ?_
                        refine still_no rfl ?_
                        refine nS153 ?_
                        refine still_no rfl ?_
                        refine still_no rfl ?_
                        refine nS153 ?_
                        refine still_no rfl ?_
                        refine still_no rfl ?_
                        refine nS153 ?_
                        refine still_no rfl ?_
                        refine still_no rfl ?_
                        refine nS153 ?_
                        refine still_no rfl ?_
                        refine still_no rfl ?_
                        refine nS153 ?_
                        refine still_no rfl ?_
                        refine still_val (ex_pick_t rfl rfl) ?_
                        refine still_val (ex_assign rfl) ?_
                        refine still_nil ?_
                        refine nR153 ?_
                        refine run_nil (blk_normal ?_)
                        refine run_region ?_
                        refine ops_val (ex_move rfl) ?_
                        refine ops_val (ex_add rfl rfl (IntWalk.i64_in _ (by omega))) ?_
                        refine ops_val (ex_assign rfl) ?_
                        refine ops_nil ?_
                        refine nR153 ?_
                        refine run_nil (rnd_normal ?_)
                        exact ⟨y.votes.length - (r + 1), by omega, r + 1, _, true, rfl, (fn (fn (fn (fn (fn (fs (fn (fs (fn (fs (fs (fs (fs (fs (fs (fs (fn (fn (fn (fn (fn (fn (fn (fn (fn (fn (fn (fn (fn (fn (fn (fn (fn (fn (fn (fn (fn (fn (fn (fn (fn (fn (fn (fn (fn (fn (fn (fn (fn (fn (fn (fn (fn (fn (fn (fn (fn (fn (fn (fn (fn (fn (fn (fn (fn (fn (fn (fn (fn (fn (fn (fn (fn (fn (fn (fn (fn (fn (fn (fn (fn (fn (fn (fn (fn (fn (fn (fn (fn (fn (fn (fn (fn (fn (fn (fn (fn (fn (fn (fn (fn (fn (fn (fn (fn (fn (fn (fn (fn (fn (fn (fn (fn (fn (fn (fn (fn (fn (fn (fn (fn (fn (fn (fn (fn (fn (fn (fn (fn (fn (fn (fn (fn (fn (fn (fn (fn (fn (fn (fn (fn (fn (fn (fn (fn (fn (fn (fn (fn (fn (fn (fn (fn f0))))))))))))))))))))))))))))))))))))))))))))))))))))))))))))))))))))))))))))))))))))))))))))))))))))))))))))))))))))))))))))))))))))))))))))))))))))))))), by omega, by omega, fun _ => rfl, H19⟩
                    · obtain rfl : c = true := hc (by omega)
                      refine ops_nil ?_
                      refine nR153 ?_
                      refine run_cond_false rfl ?_
                      refine run_exit ?_
                      refine rnd_exit ?_
                      refine blk_exit ?_
                      refine run_seq ?_
                      refine run_region ?_
                      refine ops_val (ex_move rfl) ?_
                      refine ops_val (ex_not rfl) ?_
                      refine ops_nil ?_
                      refine nR153 ?_
                      refine run_cond_false rfl ?_
                      refine run_skip ?_
                      refine run_nil (blk_normal ?_)
                      refine run_region ?_
                      refine ops_val (ex_move rfl) ?_
                      refine ops_val (ex_add rfl rfl (IntWalk.i64_in _ (by omega))) ?_
                      refine ops_val (ex_assign rfl) ?_
                      refine ops_nil ?_
                      refine nR153 ?_
                      refine run_nil (rnd_normal ?_)
                      exact ⟨x.votes.length - (q + 1), by omega, q + 1, _, rfl, (fn (fn (fn (fn (fn (fs (fn (fs (fn (fs (fs (fs (fs (fs (fn (fn (fn (fn (fn (fn (fn (fn (fn (fn (fn (fn (fn (fn (fn (fn (fn (fn (fn (fn (fn (fn (fn (fn (fn (fn (fn (fn (fn (fn (fn (fn (fn (fn (fn (fn (fn (fn (fn (fn (fn (fn (fn (fn (fn (fn (fn (fn (fn (fn (fn (fn (fn (fn (fn (fn (fn (fn (fn (fn (fn (fn (fn (fn (fn (fn (fn (fn (fn (fn (fn (fn (fn (fn (fn (fn (fn (fn (fn (fn (fn (fn (fn (fn (fn (fn (fn (fn (fn (fn (fn (fn (fn (fn (fn (fn (fn (fn (fn (fn (fn (fn (fn (fn (fn (fn (fn (fn (fn (fn (fn (fn (fn (fn (fn (fn (fn (fn (fn (fn (fn (fn (fn (fn (fn (fn (fn (fn (fn (fn (fn (fn (fn (fn (fn (fn (fn (fn (fn f0))))))))))))))))))))))))))))))))))))))))))))))))))))))))))))))))))))))))))))))))))))))))))))))))))))))))))))))))))))))))))))))))))))))))))))))))))))))))), by omega, by omega, H18⟩
              · skip
                refine ops_nil ?_
                refine nR153 ?_
                refine run_cond_false rfl ?_
                refine run_exit ?_
                refine rnd_exit ?_
                refine blk_exit ?_
                refine run_nil (blk_normal ?_)
                refine run_region ?_
                refine ops_val (ex_move rfl) ?_
                refine ops_val (ex_add rfl rfl (IntWalk.i64_in _ (by omega))) ?_
                refine ops_val (ex_assign rfl) ?_
                refine ops_nil ?_
                refine nR153 ?_
                refine run_nil (rnd_normal ?_)
                exact ⟨8 - (i + 1), by omega, i + 1, _, rfl, (fn (fn (fn (fn (fn (fs (fn (fs (fn (fs (fn (fn (fn (fn (fn (fn (fn (fn (fn (fn (fn (fn (fn (fn (fn (fn (fn (fn (fn (fn (fn (fn (fn (fn (fn (fn (fn (fn (fn (fn (fn (fn (fn (fn (fn (fn (fn (fn (fn (fn (fn (fn (fn (fn (fn (fn (fn (fn (fn (fn (fn (fn (fn (fn (fn (fn (fn (fn (fn (fn (fn (fn (fn (fn (fn (fn (fn (fn (fn (fn (fn (fn (fn (fn (fn (fn (fn (fn (fn (fn (fn (fn (fn (fn (fn (fn (fn (fn (fn (fn (fn (fn (fn (fn (fn (fn (fn (fn (fn (fn (fn (fn (fn (fn (fn (fn (fn (fn (fn (fn (fn (fn (fn (fn (fn (fn (fn (fn (fn (fn (fn (fn (fn (fn (fn (fn (fn (fn (fn (fn (fn (fn (fn (fn (fn (fn (fn (fn (fn (fn (fn (fn (fn f0))))))))))))))))))))))))))))))))))))))))))))))))))))))))))))))))))))))))))))))))))))))))))))))))))))))))))))))))))))))))))))))))))))))))))))))))))))))))), by omega, by omega, H17.pick [0, 1] (by decide)⟩
          · skip
            refine ops_yes rfl ?_
            refine ops_val (ex_move rfl) ?_
            refine ops_no rfl ?_
            refine nO153 ?_
            refine ops_no rfl ?_
            refine ops_no rfl ?_
            refine nO153 ?_
            refine ops_no rfl ?_
            refine ops_no rfl ?_
            refine nO153 ?_
            refine ops_no rfl ?_
            refine ops_no rfl ?_
            refine nO153 ?_
            refine ops_yes rfl ?_
            refine ops_val (ex_pick_f rfl rfl) ?_
            refine ops_val (ex_pick_f rfl rfl) ?_
            refine ops_val (ex_move rfl) ?_
            refine nO153 ?_
            refine ops_yes rfl ?_
            refine ops_val (ex_move rfl) ?_
            refine ops_yes rfl ?_
            refine ops_val (ex_fieldAddr fl39_2 rfl) ?_
            refine nO153 ?_
            refine ops_yes rfl ?_
            refine ops_val (ex_load ty3 rfl (H16.cell (i := 2) rfl rfl)) ?_
            refine ops_yes rfl ?_
            refine ops_val (ex_fieldAddr fl39_4 rfl) ?_
            refine nO153 ?_
            refine ops_yes rfl ?_
            refine ops_val (ex_load ty37 rfl (H16.cell (i := 2) rfl rfl)) ?_
            refine ops_yes rfl ?_
            refine ops_val (ex_len_slice Try.underlying37 rfl) ?_
            refine nO153 ?_
            refine ops_yes rfl ?_
            refine ops_val (ex_add rfl rfl (IntWalk.i64_in _ (by omega))) ?_
            refine ops_yes rfl ?_
            refine ops_false (ex_lss rfl rfl) (by omega) ?_
            refine nO153 ?_
            refine ops_yes rfl ?_
            refine ops_val (ex_move rfl) ?_
            refine ops_no rfl ?_
            refine nO153 ?_
            refine ops_no rfl ?_
            refine ops_no rfl ?_
            refine nO153 ?_
            refine ops_no rfl ?_
            refine ops_no rfl ?_
            refine nO153 ?_
            refine ops_yes rfl ?_
            refine ops_val (ex_pick_f rfl rfl) ?_
            refine ops_val (ex_pick_f rfl rfl) ?_
            refine ops_val (ex_move rfl) ?_
            refine nO153 ?_
            refine ops_yes rfl ?_
            refine ops_val (ex_fieldAddr fl39_2 rfl) ?_
            refine ops_yes rfl ?_
            refine ops_val (ex_load ty3 rfl (H16.cell (i := 3) rfl rfl)) ?_
            refine nO153 ?_
            refine ops_yes rfl ?_
            refine ops_val (ex_fieldAddr fl39_2 rfl) ?_
            refine ops_yes rfl ?_
            refine ops_val (ex_load ty3 rfl (H16.cell (i := 2) rfl rfl)) ?_
            refine nO153 ?_
            refine ops_yes rfl ?_
            refine ops_false (ex_lss rfl rfl) (by omega) ?_
            refine ops_val (ex_pick_f rfl rfl) ?_
            refine ops_nil ?_
            refine nR153 ?_
            refine run_cond_false rfl ?_
            refine run_skip ?_
            refine run_seq ?_
            refine run_region ?_
            refine ops_val (ex_assign rfl) ?_
            refine ops_nil ?_
            refine nR153 ?_
            refine run_block ?_
            refine run_loop (fun nQ lQ w => ∃ (q : Nat) (z : Int), x.votes.length - q = nQ ∧ Fits [none, none, none, none, none, some (.pointer (some ⟨g5, 0, none⟩)), none, some (.pointer (some ⟨g7, 0, none⟩)), none, some (.int .i64 (i : Int)), some (.pointer (some ⟨g10, 0, none⟩)), some (.pointer (some ⟨g11, 0, none⟩)), some (.int .i64 (y.index + (y.entries.length : Int))), some (.int .i64 z), none, none, none, none, none, none, none, none, none, none, none, none, none, none, none, none, none, none, none, none, none, none, none, none, none, none, none, none, none, none, none, none, none, none, none, none, none, none, none, none, none, none, none, none, none, none, none, none, none, none, none, none, none, none, none, none, none, none, none, none, none, none, none, none, none, none, none, none, none, none, none, none, none, none, none, none, none, none, none, none, none, none, none, none, none, none, none, none, none, none, none, none, none, none, none, none, none, none, none, none, none, none, none, none, none, none, none, none, none, none, none, none, none, none, none, none, none, none, none, none, none, none, none, none, none, none, none, none, none, none, none, none, none, none, none, none, none, none, none] lQ ∧ z = (q : Int) ∧ q ≤ x.votes.length ∧ Hp w10 w (bl [((some g5, 28, [.slice (some a1) a.groups.length x1, .slice X2 a.rights.length x2, .slice X3 a.last.length x3]) : Ent), (some g7, 28, [.slice (some a2) b.groups.length y1, .slice Y2 b.rights.length y2, .slice Y3 b.last.length y3])]) [((some g5, 28, [.slice (some a1) a.groups.length x1, .slice X2 a.rights.length x2, .slice X3 a.last.length x3]) : Ent), (some g7, 28, [.slice (some a2) b.groups.length y1, .slice Y2 b.rights.length y2, .slice Y3 b.last.length y3]), (some g10, 39, [.int .i64 x.p.r, .int .i64 x.p.n, .slice D1 x.votes.length e1, .int .i64 x.index, .slice D2 x.image.length e2, .slice D3 x.entries.length e3]), (some g11, 39, [.int .i64 y.p.r, .int .i64 y.p.n, .slice E1 y.votes.length f1, .int .i64 y.index, .slice E2 y.image.length f2, .slice E3 y.entries.length f3])]) (x.votes.length) ?_ ?_
            · exact ⟨0, _, rfl, (fn (fn (fn (fn (fn (fs (fn (fs (fn (fs (fs (fs (fs (fs (fn (fn (fn (fn (fn (fn (fn (fn (fn (fn (fn (fn (fn (fn (fn (fn (fn (fn (fn (fn (fn (fn (fn (fn (fn (fn (fn (fn (fn (fn (fn (fn (fn (fn (fn (fn (fn (fn (fn (fn (fn (fn (fn (fn (fn (fn (fn (fn (fn (fn (fn (fn (fn (fn (fn (fn (fn (fn (fn (fn (fn (fn (fn (fn (fn (fn (fn (fn (fn (fn (fn (fn (fn (fn (fn (fn (fn (fn (fn (fn (fn (fn (fn (fn (fn (fn (fn (fn (fn (fn (fn (fn (fn (fn (fn (fn (fn (fn (fn (fn (fn (fn (fn (fn (fn (fn (fn (fn (fn (fn (fn (fn (fn (fn (fn (fn (fn (fn (fn (fn (fn (fn (fn (fn (fn (fn (fn (fn (fn (fn (fn (fn (fn (fn (fn (fn (fn (fn (fn f0))))))))))))))))))))))))))))))))))))))))))))))))))))))))))))))))))))))))))))))))))))))))))))))))))))))))))))))))))))))))))))))))))))))))))))))))))))))))), rfl, Nat.zero_le _, H16⟩
            · rintro nQ lQ w17 ⟨q, z, rfl, hfit, rfl, hq, H17⟩
              obtain ⟨j, rfl⟩ := hfit.open
              refine nR153 ?_
              clear hfit
              refine run_seq ?_
              refine run_seq ?_
              refine run_region ?_
              refine ops_val (ex_move rfl) ?_
              refine ops_val (ex_fieldAddr fl39_1 rfl) ?_
              refine ops_val (ex_load ty35 rfl (H17.cell (i := 2) rfl rfl)) ?_
              refine ops_val (ex_len_slice Try.underlying35 rfl) ?_
              refine nO153 ?_
              refine ops_test (ex_lss rfl rfl) (fun hp117 => ?_) (fun hp117 => ?_)
              · have hqv : q < x.votes.length := by omega
                obtain ⟨u, hxu⟩ := get_of hqv
                obtain ⟨pu, hpu1, hRu⟩ := h2vx.get hxu
                obtain ⟨G1, t1, rfl, _⟩ := hRu
                obtain ⟨b1, hb1⟩ := hrvx.some_ (by omega)
                subst hb1
                have hgu := hge.v u (mem_of hxu)
                refine ops_nil ?_
                refine nR153 ?_
                refine run_cond_true rfl ?_
                refine run_skip ?_
                refine run_seq ?_
                refine run_block ?_
                refine run_seq ?_
                refine run_region ?_
                refine ops_val (ex_fieldAddr fl39_1 rfl) ?_
                refine ops_val (ex_load ty35 rfl (H17.cell (i := 2) rfl rfl)) ?_
                refine ops_val (ex_move rfl) ?_
                refine ops_val (ex_idx Try.underlying35 ty41 rfl rfl rfl hqv rfl) ?_
                refine nO153 ?_
                refine ops_val (ex_fieldAddrA fl41_0 rfl) ?_
                refine ops_val (ex_load ty3 rfl ((((hrvx.move (by decide) havx (HQ.all (HB.all H17)) k0).1).elem hpvx hpu1) 0 _ rfl)) ?_
                refine ops_val (ex_move rfl) ?_
                refine ops_test (ex_leq rfl rfl) (fun hp127 => ?_) (fun hp127 => ?_)
                · skip
                  refine ops_val (ex_assign rfl) ?_
                  refine ops_nil ?_
                  refine nR153 ?_
                  refine run_seq ?_
                  refine run_seq ?_
                  refine run_region ?_
                  refine ops_val (ex_assign rfl) ?_
                  refine ops_nil ?_
                  refine nR153 ?_
                  refine run_block ?_
                  refine run_loop (fun nQ lQ w => ∃ (r : Nat) (z : Int), y.votes.length - r = nQ ∧ Fits [none, none, none, none, none, some (.pointer (some ⟨g5, 0, none⟩)), none, some (.pointer (some ⟨g7, 0, none⟩)), none, some (.int .i64 (i : Int)), some (.pointer (some ⟨g10, 0, none⟩)), some (.pointer (some ⟨g11, 0, none⟩)), some (.int .i64 (y.index + (y.entries.length : Int))), some (.int .i64 (q : Int)), some (.bool true), some (.int .i64 z), none, none, none, none, none, none, none, none, none, none, none, none, none, none, none, none, none, none, none, none, none, none, none, none, none, none, none, none, none, none, none, none, none, none, none, none, none, none, none, none, none, none, none, none, none, none, none, none, none, none, none, none, none, none, none, none, none, none, none, none, none, none, none, none, none, none, none, none, none, none, none, none, none, none, none, none, none, none, none, none, none, none, none, none, none, none, none, none, none, none, none, none, none, none, none, none, none, none, none, none, none, none, none, none, none, none, none, none, none, none, none, none, none, none, none, none, none, none, none, none, none, none, none, none, none, none, none, none, none, none, none, none, none, none, none, none, none] lQ ∧ z = (r : Int) ∧ r ≤ y.votes.length ∧ Hp w10 w (bl [((some g5, 28, [.slice (some a1) a.groups.length x1, .slice X2 a.rights.length x2, .slice X3 a.last.length x3]) : Ent), (some g7, 28, [.slice (some a2) b.groups.length y1, .slice Y2 b.rights.length y2, .slice Y3 b.last.length y3])]) [((some g5, 28, [.slice (some a1) a.groups.length x1, .slice X2 a.rights.length x2, .slice X3 a.last.length x3]) : Ent), (some g7, 28, [.slice (some a2) b.groups.length y1, .slice Y2 b.rights.length y2, .slice Y3 b.last.length y3]), (some g10, 39, [.int .i64 x.p.r, .int .i64 x.p.n, .slice (some b1) x.votes.length e1, .int .i64 x.index, .slice D2 x.image.length e2, .slice D3 x.entries.length e3]), (some g11, 39, [.int .i64 y.p.r, .int .i64 y.p.n, .slice E1 y.votes.length f1, .int .i64 y.index, .slice E2 y.image.length f2, .slice E3 y.entries.length f3])]) (y.votes.length) ?_ ?_
                  · exact ⟨0, _, rfl, (fn (fn (fn (fn (fn (fs (fn (fs (fn (fs (fs (fs (fs (fs (fs (fs (fn (fn (fn (fn (fn (fn (fn (fn (fn (fn (fn (fn (fn (fn (fn (fn (fn (fn (fn (fn (fn (fn (fn (fn (fn (fn (fn (fn (fn (fn (fn (fn (fn (fn (fn (fn (fn (fn (fn (fn (fn (fn (fn (fn (fn (fn (fn (fn (fn (fn (fn (fn (fn (fn (fn (fn (fn (fn (fn (fn (fn (fn (fn (fn (fn (fn (fn (fn (fn (fn (fn (fn (fn (fn (fn (fn (fn (fn (fn (fn (fn (fn (fn (fn (fn (fn (fn (fn (fn (fn (fn (fn (fn (fn (fn (fn (fn (fn (fn (fn (fn (fn (fn (fn (fn (fn (fn (fn (fn (fn (fn (fn (fn (fn (fn (fn (fn (fn (fn (fn (fn (fn (fn (fn (fn (fn (fn (fn (fn (fn (fn (fn (fn (fn (fn (fn (fn f0))))))))))))))))))))))))))))))))))))))))))))))))))))))))))))))))))))))))))))))))))))))))))))))))))))))))))))))))))))))))))))))))))))))))))))))))))))))))), rfl, Nat.zero_le _, H17⟩
                  · rintro nQ lQ w18 ⟨r, z, rfl, hfit, rfl, hr, H18⟩
                    obtain ⟨j, rfl⟩ := hfit.open
                    refine nR153 ?_
                    clear hfit
                    refine run_seq ?_
                    refine run_seq ?_
                    refine run_region ?_
                    refine ops_val (ex_move rfl) ?_
                    refine ops_val (ex_fieldAddr fl39_1 rfl) ?_
                    refine ops_val (ex_load ty35 rfl (H18.cell (i := 3) rfl rfl)) ?_
                    refine ops_val (ex_len_slice Try.underlying35 rfl) ?_
                    refine nO153 ?_
                    refine ops_test (ex_lss rfl rfl) (fun hp132 => ?_) (fun hp132 => ?_)
                    · have hrv : r < y.votes.length := by omega
                      obtain ⟨uz, hyu⟩ := get_of hrv
                      obtain ⟨pz, hpz1, hRz⟩ := h2vy.get hyu
                      obtain ⟨G2, t2, rfl, _⟩ := hRz
                      obtain ⟨b2, hb2⟩ := hrvy.some_ (by omega)
                      subst hb2
                      refine ops_nil ?_
                      refine nR153 ?_
                      refine run_cond_true rfl ?_
                      refine run_skip ?_
                      refine run_seq ?_
                      refine run_block ?_
                      refine run_still mixed (by kernel_rfl) ?_
                      rintro w19 hw19
                      have H19 := Hp.drew H18; rw [← hw19] at H19
                      refine still_val (ex_move rfl) ?_
                      refine still_val (ex_move rfl) ?_
                      refine nS153 ?_
                      refine still_no rfl ?_
                      refine still_no rfl ?_
                      refine nS153 ?_
                      refine still_no rfl ?_
                      refine still_no rfl ?_
                      refine nS153 ?_
                      refine still_no rfl ?_
                      refine still_no rfl ?_
                      refine nS153 ?_
                      refine still_no rfl ?_
                      refine still_no rfl ?_
                      refine nS153 ?_
                      refine still_no rfl ?_
                      refine still_no rfl ?_
                      refine nS153 ?_
                      refine still_no rfl ?_
                      refine still_no rfl ?_
                      refine nS153 ?_
                      refine still_no rfl ?_
                      refine still_val (ex_pick_t rfl rfl) ?_
                      refine still_val (ex_assign rfl) ?_
                      refine still_nil ?_
                      refine nR153 ?_
                      refine run_nil (blk_normal ?_)
                      refine run_region ?_
                      refine ops_val (ex_move rfl) ?_
                      refine ops_val (ex_add rfl rfl (IntWalk.i64_in _ (by omega))) ?_
                      refine ops_val (ex_assign rfl) ?_
                      refine ops_nil ?_
                      refine nR153 ?_
                      refine run_nil (rnd_normal ?_)
                      exact ⟨y.votes.length - (r + 1), by omega, r + 1, _, rfl, (fn (fn (fn (fn (fn (fs (fn (fs (fn (fs (fs (fs (fs (fs (fs (fs (fn (fn (fn (fn (fn (fn (fn (fn (fn (fn (fn (fn (fn (fn (fn (fn (fn (fn (fn (fn (fn (fn (fn (fn (fn (fn (fn (fn (fn (fn (fn (fn (fn (fn (fn (fn (fn (fn (fn (fn (fn (fn (fn (fn (fn (fn (fn (fn (fn (fn (fn (fn (fn (fn (fn (fn (fn (fn (fn (fn (fn (fn (fn (fn (fn (fn (fn (fn (fn (fn (fn (fn (fn (fn (fn (fn (fn (fn (fn (fn (fn (fn (fn (fn (fn (fn (fn (fn (fn (fn (fn (fn (fn (fn (fn (fn (fn (fn (fn (fn (fn (fn (fn (fn (fn (fn (fn (fn (fn (fn (fn (fn (fn (fn (fn (fn (fn (fn (fn (fn (fn (fn (fn (fn (fn (fn (fn (fn (fn (fn (fn (fn (fn (fn (fn (fn (fn f0))))))))))))))))))))))))))))))))))))))))))))))))))))))))))))))))))))))))))))))))))))))))))))))))))))))))))))))))))))))))))))))))))))))))))))))))))))))))), by omega, by omega, H19⟩
                    · skip
                      refine ops_nil ?_
                      refine nR153 ?_
                      refine run_cond_false rfl ?_
                      refine run_exit ?_
                      refine rnd_exit ?_
                      refine blk_exit ?_
                      refine run_seq ?_
                      refine run_region ?_
                      refine ops_val (ex_move rfl) ?_
                      refine ops_val (ex_not rfl) ?_
                      refine ops_nil ?_
                      refine nR153 ?_
                      refine run_cond_false rfl ?_
                      refine run_skip ?_
                      refine run_nil (blk_normal ?_)
                      refine run_region ?_
                      refine ops_val (ex_move rfl) ?_
                      refine ops_val (ex_add rfl rfl (IntWalk.i64_in _ (by omega))) ?_
                      refine ops_val (ex_assign rfl) ?_
                      refine ops_nil ?_
                      refine nR153 ?_
                      refine run_nil (rnd_normal ?_)
                      exact ⟨x.votes.length - (q + 1), by omega, q + 1, _, rfl, (fn (fn (fn (fn (fn (fs (fn (fs (fn (fs (fs (fs (fs (fs (fn (fn (fn (fn (fn (fn (fn (fn (fn (fn (fn (fn (fn (fn (fn (fn (fn (fn (fn (fn (fn (fn (fn (fn (fn (fn (fn (fn (fn (fn (fn (fn (fn (fn (fn (fn (fn (fn (fn (fn (fn (fn (fn (fn (fn (fn (fn (fn (fn (fn (fn (fn (fn (fn (fn (fn (fn (fn (fn (fn (fn (fn (fn (fn (fn (fn (fn (fn (fn (fn (fn (fn (fn (fn (fn (fn (fn (fn (fn (fn (fn (fn (fn (fn (fn (fn (fn (fn (fn (fn (fn (fn (fn (fn (fn (fn (fn (fn (fn (fn (fn (fn (fn (fn (fn (fn (fn (fn (fn (fn (fn (fn (fn (fn (fn (fn (fn (fn (fn (fn (fn (fn (fn (fn (fn (fn (fn (fn (fn (fn (fn (fn (fn (fn (fn (fn (fn (fn (fn f0))))))))))))))))))))))))))))))))))))))))))))))))))))))))))))))))))))))))))))))))))))))))))))))))))))))))))))))))))))))))))))))))))))))))))))))))))))))))), by omega, by omega, H18⟩
                · obtain ⟨uy, huy, huys⟩ := hgu.resolve_left hp127
                  obtain ⟨kz, hkz⟩ := List.getElem?_of_mem huy
                  have hkzl := (List.getElem?_eq_some_iff.1 hkz).1
                  refine ops_val (ex_assign rfl) ?_
                  refine ops_nil ?_
                  refine nR153 ?_
                  refine run_seq ?_
                  refine run_seq ?_
                  refine run_region ?_
                  refine ops_val (ex_assign rfl) ?_
                  refine ops_nil ?_
                  refine nR153 ?_
                  refine run_block ?_
                  refine run_loop (fun nQ lQ w => ∃ (r : Nat) (z : Int) (c : Bool), y.votes.length - r = nQ ∧ Fits [none, none, none, none, none, some (.pointer (some ⟨g5, 0, none⟩)), none, some (.pointer (some ⟨g7, 0, none⟩)), none, some (.int .i64 (i : Int)), some (.pointer (some ⟨g10, 0, none⟩)), some (.pointer (some ⟨g11, 0, none⟩)), some (.int .i64 (y.index + (y.entries.length : Int))), some (.int .i64 (q : Int)), some (.bool c), some (.int .i64 z), none, none, none, none, none, none, none, none, none, none, none, none, none, none, none, none, none, none, none, none, none, none, none, none, none, none, none, none, none, none, none, none, none, none, none, none, none, none, none, none, none, none, none, none, none, none, none, none, none, none, none, none, none, none, none, none, none, none, none, none, none, none, none, none, none, none, none, none, none, none, none, none, none, none, none, none, none, none, none, none, none, none, none, none, none, none, none, none, none, none, none, none, none, none, none, none, none, none, none, none, none, none, none, none, none, none, none, none, none, none, none, none, none, none, none, none, none, none, none, none, none, none, none, none, none, none, none, none, none, none, none, none, none, none, none, none, none] lQ ∧ z = (r : Int) ∧ r ≤ y.votes.length ∧ (kz < r → c = true) ∧ Hp w10 w (bl [((some g5, 28, [.slice (some a1) a.groups.length x1, .slice X2 a.rights.length x2, .slice X3 a.last.length x3]) : Ent), (some g7, 28, [.slice (some a2) b.groups.length y1, .slice Y2 b.rights.length y2, .slice Y3 b.last.length y3])]) [((some g5, 28, [.slice (some a1) a.groups.length x1, .slice X2 a.rights.length x2, .slice X3 a.last.length x3]) : Ent), (some g7, 28, [.slice (some a2) b.groups.length y1, .slice Y2 b.rights.length y2, .slice Y3 b.last.length y3]), (some g10, 39, [.int .i64 x.p.r, .int .i64 x.p.n, .slice (some b1) x.votes.length e1, .int .i64 x.index, .slice D2 x.image.length e2, .slice D3 x.entries.length e3]), (some g11, 39, [.int .i64 y.p.r, .int .i64 y.p.n, .slice E1 y.votes.length f1, .int .i64 y.index, .slice E2 y.image.length f2, .slice E3 y.entries.length f3])]) (y.votes.length) ?_ ?_
                  · exact ⟨0, _, false, rfl, (fn (fn (fn (fn (fn (fs (fn (fs (fn (fs (fs (fs (fs (fs (fs (fs (fn (fn (fn (fn (fn (fn (fn (fn (fn (fn (fn (fn (fn (fn (fn (fn (fn (fn (fn (fn (fn (fn (fn (fn (fn (fn (fn (fn (fn (fn (fn (fn (fn (fn (fn (fn (fn (fn (fn (fn (fn (fn (fn (fn (fn (fn (fn (fn (fn (fn (fn (fn (fn (fn (fn (fn (fn (fn (fn (fn (fn (fn (fn (fn (fn (fn (fn (fn (fn (fn (fn (fn (fn (fn (fn (fn (fn (fn (fn (fn (fn (fn (fn (fn (fn (fn (fn (fn (fn (fn (fn (fn (fn (fn (fn (fn (fn (fn (fn (fn (fn (fn (fn (fn (fn (fn (fn (fn (fn (fn (fn (fn (fn (fn (fn (fn (fn (fn (fn (fn (fn (fn (fn (fn (fn (fn (fn (fn (fn (fn (fn (fn (fn (fn (fn (fn (fn f0))))))))))))))))))))))))))))))))))))))))))))))))))))))))))))))))))))))))))))))))))))))))))))))))))))))))))))))))))))))))))))))))))))))))))))))))))))))))), rfl, Nat.zero_le _, (fun h => by omega), H17⟩
                  · rintro nQ lQ w18 ⟨r, z, c, rfl, hfit, rfl, hr, hc, H18⟩
                    obtain ⟨j, rfl⟩ := hfit.open
                    refine nR153 ?_
                    clear hfit
                    refine run_seq ?_
                    refine run_seq ?_
                    refine run_region ?_
                    refine ops_val (ex_move rfl) ?_
                    refine ops_val (ex_fieldAddr fl39_1 rfl) ?_
                    refine ops_val (ex_load ty35 rfl (H18.cell (i := 3) rfl rfl)) ?_
                    refine ops_val (ex_len_slice Try.underlying35 rfl) ?_
                    refine nO153 ?_
                    refine ops_test (ex_lss rfl rfl) (fun hp132 => ?_) (fun hp132 => ?_)
                    · have hrv : r < y.votes.length := by omega
                      obtain ⟨uz, hyu⟩ := get_of hrv
                      obtain ⟨pz, hpz1, hRz⟩ := h2vy.get hyu
                      obtain ⟨G2, t2, rfl, _⟩ := hRz
                      obtain ⟨b2, hb2⟩ := hrvy.some_ (by omega)
                      subst hb2
                      refine ops_nil ?_
                      refine nR153 ?_
                      refine run_cond_true rfl ?_
                      refine run_skip ?_
                      refine run_seq ?_
                      refine run_block ?_
                      cases c
                      · skip
                        refine run_still mixed (by kernel_rfl) ?_
                        rintro w19 hw19
                        have H19 := Hp.drew H18; rw [← hw19] at H19
                        refine still_val (ex_move rfl) ?_
                        refine still_val (ex_move rfl) ?_
                        refine nS153 ?_
                        refine still_yes rfl ?_
                        refine still_val (ex_fieldAddr fl39_1 rfl) ?_
                        refine still_yes rfl ?_
                        refine still_val (ex_load ty35 rfl (H19.cell (i := 3) rfl rfl)) ?_
                        refine nS153 ?_
                        refine still_yes rfl ?_
                        refine still_val (ex_move rfl) ?_
                        refine still_yes rfl ?_
                        refine still_val (ex_idx Try.underlying35 ty41 rfl rfl rfl hrv rfl) ?_
                        refine nS153 ?_
                        refine still_yes rfl ?_
                        refine still_val (ex_fieldAddrA fl41_0 rfl) ?_
                        refine still_yes rfl ?_
                        refine still_val (ex_load ty3 rfl ((((hrvy.move (by decide) havy (HB.all H19) hkb).1).elem hpvy hpz1) 0 _ rfl)) ?_
                        refine nS153 ?_
                        refine still_yes rfl ?_
                        refine still_val (ex_fieldAddr fl39_1 rfl) ?_
                        refine still_yes rfl ?_
                        refine still_val (ex_load ty35 rfl (H19.cell (i := 2) rfl rfl)) ?_
                        refine nS153 ?_
                        refine still_yes rfl ?_
                        refine still_val (ex_move rfl) ?_
                        refine still_yes rfl ?_
                        refine still_val (ex_idx Try.underlying35 ty41 rfl rfl rfl hqv rfl) ?_
                        refine nS153 ?_
                        refine still_yes rfl ?_
                        refine still_val (ex_fieldAddrA fl41_0 rfl) ?_
                        refine still_yes rfl ?_
                        refine still_val (ex_load ty3 rfl ((((hrvx.move (by decide) havx (HQ.all (HB.all H19)) k0).1).elem hpvx hpu1) 0 _ rfl)) ?_
                        refine nS153 ?_
                        refine still_yes rfl ?_
                        refine still_test (ex_eql rfl rfl) (fun hp149 => ?_) (fun hp149 => ?_)
                        · skip
                          refine still_val (ex_pick_f rfl rfl) ?_
                          refine still_val (ex_assign rfl) ?_
                          refine still_nil ?_
                          refine nR153 ?_
                          refine run_nil (blk_normal ?_)
                          refine run_region ?_
                          refine ops_val (ex_move rfl) ?_
                          refine ops_val (ex_add rfl rfl (IntWalk.i64_in _ (by omega))) ?_
                          refine ops_val (ex_assign rfl) ?_
                          refine ops_nil ?_
                          refine nR153 ?_
                          refine run_nil (rnd_normal ?_)
                          exact ⟨y.votes.length - (r + 1), by omega, r + 1, _, true, rfl, (fn (fn (fn (fn (fn (fs (fn (fs (fn (fs (fs (fs (fs (fs (fs (fs (fn (fn (fn (fn (fn (fn (fn (fn (fn (fn (fn (fn (fn (fn (fn (fn (fn (fn (fn (fn (fn (fn (fn (fn (fn (fn (fn (fn (fn (fn (fn (fn (fn (fn (fn (fn (fn (fn (fn (fn (fn (fn (fn (fn (fn (fn (fn (fn (fn (fn (fn (fn (fn (fn (fn (fn (fn (fn (fn (fn (fn (fn (fn (fn (fn (fn (fn (fn (fn (fn (fn (fn (fn (fn (fn (fn (fn (fn (fn (fn (fn (fn (fn (fn (fn (fn (fn (fn (fn (fn (fn (fn (fn (fn (fn (fn (fn (fn (fn (fn (fn (fn (fn (fn (fn (fn (fn (fn (fn (fn (fn (fn (fn (fn (fn (fn (fn (fn (fn (fn (fn (fn (fn (fn (fn (fn (fn (fn (fn (fn (fn (fn (fn (fn (fn (fn (fn f0))))))))))))))))))))))))))))))))))))))))))))))))))))))))))))))))))))))))))))))))))))))))))))))))))))))))))))))))))))))))))))))))))))))))))))))))))))))))), by omega, by omega, fun _ => rfl, H19⟩
                        · skip
                          refine still_val (ex_pick_f rfl rfl) ?_
                          refine still_val (ex_assign rfl) ?_
                          refine still_nil ?_
                          refine nR153 ?_
                          refine run_nil (blk_normal ?_)
                          refine run_region ?_
                          refine ops_val (ex_move rfl) ?_
                          refine ops_val (ex_add rfl rfl (IntWalk.i64_in _ (by omega))) ?_
                          refine ops_val (ex_assign rfl) ?_
                          refine ops_nil ?_
                          refine nR153 ?_
                          refine run_nil (rnd_normal ?_)
                          exact ⟨y.votes.length - (r + 1), by omega, r + 1, _, false, rfl, (fn (fn (fn (fn (fn (fs (fn (fs (fn (fs (fs (fs (fs (fs (fs (fs (fn (fn (fn (fn (fn (fn (fn (fn (fn (fn (fn (fn (fn (fn (fn (fn (fn (fn (fn (fn (fn (fn (fn (fn (fn (fn (fn (fn (fn (fn (fn (fn (fn (fn (fn (fn (fn (fn (fn (fn (fn (fn (fn (fn (fn (fn (fn (fn (fn (fn (fn (fn (fn (fn (fn (fn (fn (fn (fn (fn (fn (fn (fn (fn (fn (fn (fn (fn (fn (fn (fn (fn (fn (fn (fn (fn (fn (fn (fn (fn (fn (fn (fn (fn (fn (fn (fn (fn (fn (fn (fn (fn (fn (fn (fn (fn (fn (fn (fn (fn (fn (fn (fn (fn (fn (fn (fn (fn (fn (fn (fn (fn (fn (fn (fn (fn (fn (fn (fn (fn (fn (fn (fn (fn (fn (fn (fn (fn (fn (fn (fn (fn (fn (fn (fn (fn (fn f0))))))))))))))))))))))))))))))))))))))))))))))))))))))))))))))))))))))))))))))))))))))))))))))))))))))))))))))))))))))))))))))))))))))))))))))))))))))))), by omega, by omega, fun hk => (show False from by
                            rcases Nat.lt_or_ge kz r with h1 | h1
                            · exact absurd (hc h1) (by decide)
                            · obtain rfl : kz = r := by omega
                              rw [hyu] at hkz
                              cases hkz
                              exact hp149 huys).elim, H19⟩
                      · skip
                        refine run_still mixed (by kernel_rfl) ?_
                        rintro w19 hw19
                        have H19 := Hp.drew H18; rw [← hw19] at H19
                        refine still_val (ex_move rfl) ?_
                        refine still_val (ex_move rfl) ?_
                        refine nS153 ?_
                        refine still_no rfl ?_
                        refine still_no rfl ?_
                        refine nS153 ?_
                        refine still_no rfl ?_
                        refine still_no rfl ?_
                        refine nS153 ?_
                        refine still_no rfl ?_
                        refine still_no rfl ?_
                        refine nS153 ?_
                        refine still_no rfl ?_
                        refine still_no rfl ?_
                        refine nS153 ?_
                        refine still_no rfl ?_
                        refine still_no rfl ?_
                        refine nS153 ?_
                        refine still_no rfl ?_
                        refine still_no rfl ?_
                        refine nS153 ?_
                        refine still_no rfl ?_
                        refine still_val (ex_pick_t rfl rfl) ?_
                        refine still_val (ex_assign rfl) ?_
                        refine still_nil ?_
                        refine nR153 ?_
                        refine run_nil (blk_normal ?_)
                        refine run_region ?_
                        refine ops_val (ex_move rfl) ?_
                        refine ops_val (ex_add rfl rfl (IntWalk.i64_in _ (by omega))) ?_
                        refine ops_val (ex_assign rfl) ?_
                        refine ops_nil ?_
                        refine nR153 ?_
                        refine run_nil (rnd_normal ?_)
                        exact ⟨y.votes.length - (r + 1), by omega, r + 1, _, true, rfl, (fn (fn (fn (fn (fn (fs (fn (fs (fn (fs (fs (fs (fs (fs (fs (fs (fn (fn (fn (fn (fn (fn (fn (fn (fn (fn (fn (fn (fn (fn (fn (fn (fn (fn (fn (fn (fn (fn (fn (fn (fn (fn (fn (fn (fn (fn (fn (fn (fn (fn (fn (fn (fn (fn (fn (fn (fn (fn (fn (fn (fn (fn (fn (fn (fn (fn (fn (fn (fn (fn (fn (fn (fn (fn (fn (fn (fn (fn (fn (fn (fn (fn (fn (fn (fn (fn (fn (fn (fn (fn (fn (fn (fn (fn (fn (fn (fn (fn (fn (fn (fn (fn (fn (fn (fn (fn (fn (fn (fn (fn (fn (fn (fn (fn (fn (fn (fn (fn (fn (fn (fn (fn (fn (fn (fn (fn (fn (fn (fn (fn (fn (fn (fn (fn (fn (fn (fn (fn (fn (fn (fn (fn (fn (fn (fn (fn (fn (fn (fn (fn (fn (fn (fn f0))))))))))))))))))))))))))))))))))))))))))))))))))))))))))))))))))))))))))))))))))))))))))))))))))))))))))))))))))))))))))))))))))))))))))))))))))))))))), by omega, by omega, fun _ => rfl, H19⟩
                    · obtain rfl : c = true := hc (by omega)
                      refine ops_nil ?_
                      refine nR153 ?_
                      refine run_cond_false rfl ?_
                      refine run_exit ?_
                      refine rnd_exit ?_
                      refine blk_exit ?_
                      refine run_seq ?_
                      refine run_region ?_
                      refine ops_val (ex_move rfl) ?_
                      refine ops_val (ex_not rfl) ?_
                      refine ops_nil ?_
                      refine nR153 ?_
                      refine run_cond_false rfl ?_
                      refine run_skip ?_
                      refine run_nil (blk_normal ?_)
                      refine run_region ?_
                      refine ops_val (ex_move rfl) ?_
                      refine ops_val (ex_add rfl rfl (IntWalk.i64_in _ (by omega))) ?_
                      refine ops_val (ex_assign rfl) ?_
                      refine ops_nil ?_
                      refine nR153 ?_
                      refine run_nil (rnd_normal ?_)
                      exact ⟨x.votes.length - (q + 1), by omega, q + 1, _, rfl, (fn (fn (fn (fn (fn (fs (fn (fs (fn (fs (fs (fs (fs (fs (fn (fn (fn (fn (fn (fn (fn (fn (fn (fn (fn (fn (fn (fn (fn (fn (fn (fn (fn (fn (fn (fn (fn (fn (fn (fn (fn (fn (fn (fn (fn (fn (fn (fn (fn (fn (fn (fn (fn (fn (fn (fn (fn (fn (fn (fn (fn (fn (fn (fn (fn (fn (fn (fn (fn (fn (fn (fn (fn (fn (fn (fn (fn (fn (fn (fn (fn (fn (fn (fn (fn (fn (fn (fn (fn (fn (fn (fn (fn (fn (fn (fn (fn (fn (fn (fn (fn (fn (fn (fn (fn (fn (fn (fn (fn (fn (fn (fn (fn (fn (fn (fn (fn (fn (fn (fn (fn (fn (fn (fn (fn (fn (fn (fn (fn (fn (fn (fn (fn (fn (fn (fn (fn (fn (fn (fn (fn (fn (fn (fn (fn (fn (fn (fn (fn (fn (fn (fn (fn f0))))))))))))))))))))))))))))))))))))))))))))))))))))))))))))))))))))))))))))))))))))))))))))))))))))))))))))))))))))))))))))))))))))))))))))))))))))))))), by omega, by omega, H18⟩
              · skip
                refine ops_nil ?_
                refine nR153 ?_
                refine run_cond_false rfl ?_
                refine run_exit ?_
                refine rnd_exit ?_
                refine blk_exit ?_
                refine run_nil (blk_normal ?_)
                refine run_region ?_
                refine ops_val (ex_move rfl) ?_
                refine ops_val (ex_add rfl rfl (IntWalk.i64_in _ (by omega))) ?_
                refine ops_val (ex_assign rfl) ?_
                refine ops_nil ?_
                refine nR153 ?_
                refine run_nil (rnd_normal ?_)
                exact ⟨8 - (i + 1), by omega, i + 1, _, rfl, (fn (fn (fn (fn (fn (fs (fn (fs (fn (fs (fn (fn (fn (fn (fn (fn (fn (fn (fn (fn (fn (fn (fn (fn (fn (fn (fn (fn (fn (fn (fn (fn (fn (fn (fn (fn (fn (fn (fn (fn (fn (fn (fn (fn (fn (fn (fn (fn (fn (fn (fn (fn (fn (fn (fn (fn (fn (fn (fn (fn (fn (fn (fn (fn (fn (fn (fn (fn (fn (fn (fn (fn (fn (fn (fn (fn (fn (fn (fn (fn (fn (fn (fn (fn (fn (fn (fn (fn (fn (fn (fn (fn (fn (fn (fn (fn (fn (fn (fn (fn (fn (fn (fn (fn (fn (fn (fn (fn (fn (fn (fn (fn (fn (fn (fn (fn (fn (fn (fn (fn (fn (fn (fn (fn (fn (fn (fn (fn (fn (fn (fn (fn (fn (fn (fn (fn (fn (fn (fn (fn (fn (fn (fn (fn (fn (fn (fn (fn (fn (fn (fn (fn (fn f0))))))))))))))))))))))))))))))))))))))))))))))))))))))))))))))))))))))))))))))))))))))))))))))))))))))))))))))))))))))))))))))))))))))))))))))))))))))))), by omega, by omega, H17.pick [0, 1] (by decide)⟩
        · skip
          refine mixt_o rfl ?_
          refine ops_alloc ty39 H12 ?_
          intro w13 g11 H13 _
          refine ops_nil ?_
          refine ⟨fun hne => H13.pick [0, 1] (by decide), ?_⟩
          change MixT _ _ _ _ _ _ [_, _, _, _, _, _, _, _, _, _, _, _, _, _, _, _, _, _, _, _, _, _, _, _, _, _, _, _, _, _, _, _, _, _, _, _, _, _, _, _, _, _, _, _, _, _, _, _, _, _, _, _, _, _, _, _, _, _, _, _, _, _, _, _, _, _, _, _, _, _, _, _, _, _, _, _, _, _, _, _, _, _, _, _, _, _, _, _, _, _, _, _, _, _, _, _, _, _, _, _, _, _, _, _, _, _, _, _, _, _, _, _, _, _, _, _, _, _, _, _, _, _, _, _, _, _, _, _, _, _, _, _, _, _, _, _, _, _, _, _, _, _, _, _, _, _, _, _, _, _, _, _, _] _
          refine mixt_o rfl ?_
          refine ops_alloc ty39 H13 ?_
          intro w14 g10 H14 _
          replace H14 := H14.pick [0, 1, 3, 2] (by decide)
          refine ops_nil ?_
          refine ⟨fun hne => H14.pick [0, 1] (by decide), ?_⟩
          change MixT _ _ _ _ _ _ [_, _, _, _, _, _, _, _, _, _, _, _, _, _, _, _, _, _, _, _, _, _, _, _, _, _, _, _, _, _, _, _, _, _, _, _, _, _, _, _, _, _, _, _, _, _, _, _, _, _, _, _, _, _, _, _, _, _, _, _, _, _, _, _, _, _, _, _, _, _, _, _, _, _, _, _, _, _, _, _, _, _, _, _, _, _, _, _, _, _, _, _, _, _, _, _, _, _, _, _, _, _, _, _, _, _, _, _, _, _, _, _, _, _, _, _, _, _, _, _, _, _, _, _, _, _, _, _, _, _, _, _, _, _, _, _, _, _, _, _, _, _, _, _, _, _, _, _, _, _, _, _, _] _
          refine mixt_o rfl ?_
          refine ops_store ty39 H14 2 (vs := [.int .i64 x.p.r, .int .i64 x.p.n, .slice D1 x.votes.length e1, .int .i64 x.index, .slice D2 x.image.length e2, .slice D3 x.entries.length e3]) rfl rfl rfl rfl rfl (Nat.le_refl 6) rfl ?_
          intro w15 H15
          refine ops_nil ?_
          refine ⟨fun hne => H15.pick [0, 1] (by decide), ?_⟩
          change MixT _ _ _ _ _ _ [_, _, _, _, _, _, _, _, _, _, _, _, _, _, _, _, _, _, _, _, _, _, _, _, _, _, _, _, _, _, _, _, _, _, _, _, _, _, _, _, _, _, _, _, _, _, _, _, _, _, _, _, _, _, _, _, _, _, _, _, _, _, _, _, _, _, _, _, _, _, _, _, _, _, _, _, _, _, _, _, _, _, _, _, _, _, _, _, _, _, _, _, _, _, _, _, _, _, _, _, _, _, _, _, _, _, _, _, _, _, _, _, _, _, _, _, _, _, _, _, _, _, _, _, _, _, _, _, _, _, _, _, _, _, _, _, _, _, _, _, _, _, _, _, _, _, _, _, _, _, _, _, _] _
          refine mixt_o rfl ?_
          refine ops_store ty39 H15 3 (vs := [.int .i64 y.p.r, .int .i64 y.p.n, .slice E1 y.votes.length f1, .int .i64 y.index, .slice E2 y.image.length f2, .slice E3 y.entries.length f3]) rfl rfl rfl rfl rfl (Nat.le_refl 6) rfl ?_
          intro w16 H16
          refine ops_nil ?_
          refine ⟨fun hne => absurd rfl hne, ?_⟩
          change MixT _ _ _ _ _ _ [_, _, _, _, _, _, _, _, _, _, _, _, _, _, _, _, _, _, _, _, _, _, _, _, _, _, _, _, _, _, _, _, _, _, _, _, _, _, _, _, _, _, _, _, _, _, _, _, _, _, _, _, _, _, _, _, _, _, _, _, _, _, _, _, _, _, _, _, _, _, _, _, _, _, _, _, _, _, _, _, _, _, _, _, _, _, _, _, _, _, _, _, _, _, _, _, _, _, _, _, _, _, _, _, _, _, _, _, _, _, _, _, _, _, _, _, _, _, _, _, _, _, _, _, _, _, _, _, _, _, _, _, _, _, _, _, _, _, _, _, _, _, _, _, _, _, _, _, _, _, _, _, _] _
          refine mixt_nil ?_
          refine nR153 ?_
          refine run_seq ?_
          refine run_region ?_
          refine ops_val (ex_fieldAddr fl39_2 rfl) ?_
          refine ops_val (ex_load ty3 rfl (H16.cell (i := 3) rfl rfl)) ?_
          refine ops_val (ex_fieldAddr fl39_4 rfl) ?_
          refine ops_val (ex_load ty37 rfl (H16.cell (i := 3) rfl rfl)) ?_
          refine nO153 ?_
          refine ops_val (ex_len_slice Try.underlying37 rfl) ?_
          refine ops_val (ex_add rfl rfl (IntWalk.i64_in _ (by omega))) ?_
          refine ops_val (ex_assign rfl) ?_
          refine ops_nil ?_
          refine nR153 ?_
          refine run_seq ?_
          refine run_seq ?_
          refine run_region ?_
          refine ops_val (ex_fieldAddr fl39_0 rfl) ?_
          refine ops_val (ex_fieldAddr fl34_0 rfl) ?_
          refine ops_val (ex_load ty3 rfl (H16.cell (i := 3) rfl rfl)) ?_
          refine ops_val (ex_fieldAddr fl39_0 rfl) ?_
          refine nO153 ?_
          refine ops_val (ex_fieldAddr fl34_0 rfl) ?_
          refine ops_val (ex_load ty3 rfl (H16.cell (i := 2) rfl rfl)) ?_
          refine ops_false (ex_lss rfl rfl) (by omega) ?_
          refine ops_val (ex_move rfl) ?_
          refine nO153 ?_
          refine ops_yes rfl ?_
          refine ops_val (ex_fieldAddr fl39_0 rfl) ?_
          refine ops_yes rfl ?_
          refine ops_val (ex_fieldAddr fl34_0 rfl) ?_
          refine nO153 ?_
          refine ops_yes rfl ?_
          refine ops_val (ex_load ty3 rfl (H16.cell (i := 3) rfl rfl)) ?_
          refine ops_yes rfl ?_
          refine ops_val (ex_fieldAddr fl39_0 rfl) ?_
          refine nO153 ?_
          refine ops_yes rfl ?_
          refine ops_val (ex_fieldAddr fl34_0 rfl) ?_
          refine ops_yes rfl ?_
          refine ops_val (ex_load ty3 rfl (H16.cell (i := 2) rfl rfl)) ?_
          refine nO153 ?_
          refine ops_yes rfl ?_
          refine ops_test (ex_eql rfl rfl) (fun hp78 => ?_) (fun hp78 => ?_)
          · skip
            refine ops_yes rfl ?_
            refine ops_val (ex_move rfl) ?_
            refine ops_yes rfl ?_
            refine ops_val (ex_fieldAddr fl39_0 rfl) ?_
            refine nO153 ?_
            refine ops_yes rfl ?_
            refine ops_val (ex_fieldAddr fl34_1 rfl) ?_
            refine ops_yes rfl ?_
            refine ops_val (ex_load ty3 rfl (H16.cell (i := 3) rfl rfl)) ?_
            refine nO153 ?_
            refine ops_yes rfl ?_
            refine ops_val (ex_fieldAddr fl39_0 rfl) ?_
            refine ops_yes rfl ?_
            refine ops_val (ex_fieldAddr fl34_1 rfl) ?_
            refine nO153 ?_
            refine ops_yes rfl ?_
            refine ops_val (ex_load ty3 rfl (H16.cell (i := 2) rfl rfl)) ?_
            refine ops_yes rfl ?_
            refine ops_false (ex_lss rfl rfl) (by omega) ?_
            refine nO153 ?_
            refine ops_yes rfl ?_
            refine ops_val (ex_pick_t rfl rfl) ?_
            refine ops_val (ex_pick_f rfl rfl) ?_
            refine ops_val (ex_move rfl) ?_
            refine nO153 ?_
            refine ops_yes rfl ?_
            refine ops_val (ex_move rfl) ?_
            refine ops_yes rfl ?_
            refine ops_val (ex_fieldAddr fl39_2 rfl) ?_
            refine nO153 ?_
            refine ops_yes rfl ?_
            refine ops_val (ex_load ty3 rfl (H16.cell (i := 2) rfl rfl)) ?_
            refine ops_yes rfl ?_
            refine ops_val (ex_fieldAddr fl39_4 rfl) ?_
            refine nO153 ?_
            refine ops_yes rfl ?_
            refine ops_val (ex_load ty37 rfl (H16.cell (i := 2) rfl rfl)) ?_
            refine ops_yes rfl ?_
            refine ops_val (ex_len_slice Try.underlying37 rfl) ?_
            refine nO153 ?_
            refine ops_yes rfl ?_
            refine ops_val (ex_add rfl rfl (IntWalk.i64_in _ (by omega))) ?_
            refine ops_yes rfl ?_
            refine ops_false (ex_lss rfl rfl) (by omega) ?_
            refine nO153 ?_
            refine ops_yes rfl ?_
            refine ops_val (ex_move rfl) ?_
            refine ops_no rfl ?_
            refine nO153 ?_
            refine ops_no rfl ?_
            refine ops_no rfl ?_
            refine nO153 ?_
            refine ops_no rfl ?_
            refine ops_no rfl ?_
            refine nO153 ?_
            refine ops_yes rfl ?_
            refine ops_val (ex_pick_f rfl rfl) ?_
            refine ops_val (ex_pick_f rfl rfl) ?_
            refine ops_val (ex_move rfl) ?_
            refine nO153 ?_
            refine ops_yes rfl ?_
            refine ops_val (ex_fieldAddr fl39_2 rfl) ?_
            refine ops_yes rfl ?_
            refine ops_val (ex_load ty3 rfl (H16.cell (i := 3) rfl rfl)) ?_
            refine nO153 ?_
            refine ops_yes rfl ?_
            refine ops_val (ex_fieldAddr fl39_2 rfl) ?_
            refine ops_yes rfl ?_
            refine ops_val (ex_load ty3 rfl (H16.cell (i := 2) rfl rfl)) ?_
            refine nO153 ?_
            refine ops_yes rfl ?_
            refine ops_false (ex_lss rfl rfl) (by omega) ?_
            refine ops_val (ex_pick_f rfl rfl) ?_
            refine ops_nil ?_
            refine nR153 ?_
            refine run_cond_false rfl ?_
            refine run_skip ?_
            refine run_seq ?_
            refine run_region ?_
            refine ops_val (ex_assign rfl) ?_
            refine ops_nil ?_
            refine nR153 ?_
            refine run_block ?_
            refine run_loop (fun nQ lQ w => ∃ (q : Nat) (z : Int), x.votes.length - q = nQ ∧ Fits [none, none, none, none, none, some (.pointer (some ⟨g5, 0, none⟩)), none, some (.pointer (some ⟨g7, 0, none⟩)), none, some (.int .i64 (i : Int)), some (.pointer (some ⟨g10, 0, none⟩)), some (.pointer (some ⟨g11, 0, none⟩)), some (.int .i64 (y.index + (y.entries.length : Int))), some (.int .i64 z), none, none, none, none, none, none, none, none, none, none, none, none, none, none, none, none, none, none, none, none, none, none, none, none, none, none, none, none, none, none, none, none, none, none, none, none, none, none, none, none, none, none, none, none, none, none, none, none, none, none, none, none, none, none, none, none, none, none, none, none, none, none, none, none, none, none, none, none, none, none, none, none, none, none, none, none, none, none, none, none, none, none, none, none, none, none, none, none, none, none, none, none, none, none, none, none, none, none, none, none, none, none, none, none, none, none, none, none, none, none, none, none, none, none, none, none, none, none, none, none, none, none, none, none, none, none, none, none, none, none, none, none, none, none, none, none, none, none, none] lQ ∧ z = (q : Int) ∧ q ≤ x.votes.length ∧ Hp w10 w (bl [((some g5, 28, [.slice (some a1) a.groups.length x1, .slice X2 a.rights.length x2, .slice X3 a.last.length x3]) : Ent), (some g7, 28, [.slice (some a2) b.groups.length y1, .slice Y2 b.rights.length y2, .slice Y3 b.last.length y3])]) [((some g5, 28, [.slice (some a1) a.groups.length x1, .slice X2 a.rights.length x2, .slice X3 a.last.length x3]) : Ent), (some g7, 28, [.slice (some a2) b.groups.length y1, .slice Y2 b.rights.length y2, .slice Y3 b.last.length y3]), (some g10, 39, [.int .i64 x.p.r, .int .i64 x.p.n, .slice D1 x.votes.length e1, .int .i64 x.index, .slice D2 x.image.length e2, .slice D3 x.entries.length e3]), (some g11, 39, [.int .i64 y.p.r, .int .i64 y.p.n, .slice E1 y.votes.length f1, .int .i64 y.index, .slice E2 y.image.length f2, .slice E3 y.entries.length f3])]) (x.votes.length) ?_ ?_
            · exact ⟨0, _, rfl, (fn (fn (fn (fn (fn (fs (fn (fs (fn (fs (fs (fs (fs (fs (fn (fn (fn (fn (fn (fn (fn (fn (fn (fn (fn (fn (fn (fn (fn (fn (fn (fn (fn (fn (fn (fn (fn (fn (fn (fn (fn (fn (fn (fn (fn (fn (fn (fn (fn (fn (fn (fn (fn (fn (fn (fn (fn (fn (fn (fn (fn (fn (fn (fn (fn (fn (fn (fn (fn (fn (fn (fn (fn (fn (fn (fn (fn (fn (fn (fn (fn (fn (fn (fn (fn (fn (fn (fn (fn (fn (fn (fn (fn (fn (fn (fn (fn (fn (fn (fn (fn (fn (fn (fn (fn (fn (fn (fn (fn (fn (fn (fn (fn (fn (fn (fn (fn (fn (fn (fn (fn (fn (fn (fn (fn (fn (fn (fn (fn (fn (fn (fn (fn (fn (fn (fn (fn (fn (fn (fn (fn (fn (fn (fn (fn (fn (fn (fn (fn (fn (fn (fn (fn f0))))))))))))))))))))))))))))))))))))))))))))))))))))))))))))))))))))))))))))))))))))))))))))))))))))))))))))))))))))))))))))))))))))))))))))))))))))))))), rfl, Nat.zero_le _, H16⟩
            · rintro nQ lQ w17 ⟨q, z, rfl, hfit, rfl, hq, H17⟩
              obtain ⟨j, rfl⟩ := hfit.open
              refine nR153 ?_
              clear hfit
              refine run_seq ?_
              refine run_seq ?_
              refine run_region ?_
              refine ops_val (ex_move rfl) ?_
              refine ops_val (ex_fieldAddr fl39_1 rfl) ?_
              refine ops_val (ex_load ty35 rfl (H17.cell (i := 2) rfl rfl)) ?_
              refine ops_val (ex_len_slice Try.underlying35 rfl) ?_
              refine nO153 ?_
              refine ops_test (ex_lss rfl rfl) (fun hp117 => ?_) (fun hp117 => ?_)
              · have hqv : q < x.votes.length := by omega
                obtain ⟨u, hxu⟩ := get_of hqv
                obtain ⟨pu, hpu1, hRu⟩ := h2vx.get hxu
                obtain ⟨G1, t1, rfl, _⟩ := hRu
                obtain ⟨b1, hb1⟩ := hrvx.some_ (by omega)
                subst hb1
                have hgu := hge.v u (mem_of hxu)
                refine ops_nil ?_
                refine nR153 ?_
                refine run_cond_true rfl ?_
                refine run_skip ?_
                refine run_seq ?_
                refine run_block ?_
                refine run_seq ?_
                refine run_region ?_
                refine ops_val (ex_fieldAddr fl39_1 rfl) ?_
                refine ops_val (ex_load ty35 rfl (H17.cell (i := 2) rfl rfl)) ?_
                refine ops_val (ex_move rfl) ?_
                refine ops_val (ex_idx Try.underlying35 ty41 rfl rfl rfl hqv rfl) ?_
                refine nO153 ?_
                refine ops_val (ex_fieldAddrA fl41_0 rfl) ?_
                refine ops_val (ex_load ty3 rfl ((((hrvx.move (by decide) havx (HQ.all (HB.all H17)) k0).1).elem hpvx hpu1) 0 _ rfl)) ?_
                refine ops_val (ex_move rfl) ?_
                refine ops_test (ex_leq rfl rfl) (fun hp127 => ?_) (fun hp127 => ?_)
                · skip
                  refine ops_val (ex_assign rfl) ?_
                  refine ops_nil ?_
                  refine nR153 ?_
                  refine run_seq ?_
                  refine run_seq ?_
                  refine run_region ?_
                  refine ops_val (ex_assign rfl) ?_
                  refine ops_nil ?_
                  refine nR153 ?_
                  refine run_block ?_
                  refine run_loop (fun nQ lQ w => ∃ (r : Nat) (z : Int), y.votes.length - r = nQ ∧ Fits [none, none, none, none, none, some (.pointer (some ⟨g5, 0, none⟩)), none, some (.pointer (some ⟨g7, 0, none⟩)), none, some (.int .i64 (i : Int)), some (.pointer (some ⟨g10, 0, none⟩)), some (.pointer (some ⟨g11, 0, none⟩)), some (.int .i64 (y.index + (y.entries.length : Int))), some (.int .i64 (q : Int)), some (.bool true), some (.int .i64 z), none, none, none, none, none, none, none, none, none, none, none, none, none, none, none, none, none, none, none, none, none, none, none, none, none, none, none, none, none, none, none, none, none, none, none, none, none, none, none, none, none, none, none, none, none, none, none, none, none, none, none, none, none, none, none, none, none, none, none, none, none, none, none, none, none, none, none, none, none, none, none, none, none, none, none, none, none, none, none, none, none, none, none, none, none, none, none, none, none, none, none, none, none, none, none, none, none, none, none, none, none, none, none, none, none, none, none, none, none, none, none, none, none, none, none, none, none, none, none, none, none, none, none, none, none, none, none, none, none, none, none, none, none, none, none, none, none] lQ ∧ z = (r : Int) ∧ r ≤ y.votes.length ∧ Hp w10 w (bl [((some g5, 28, [.slice (some a1) a.groups.length x1, .slice X2 a.rights.length x2, .slice X3 a.last.length x3]) : Ent), (some g7, 28, [.slice (some a2) b.groups.length y1, .slice Y2 b.rights.length y2, .slice Y3 b.last.length y3])]) [((some g5, 28, [.slice (some a1) a.groups.length x1, .slice X2 a.rights.length x2, .slice X3 a.last.length x3]) : Ent), (some g7, 28, [.slice (some a2) b.groups.length y1, .slice Y2 b.rights.length y2, .slice Y3 b.last.length y3]), (some g10, 39, [.int .i64 x.p.r, .int .i64 x.p.n, .slice (some b1) x.votes.length e1, .int .i64 x.index, .slice D2 x.image.length e2, .slice D3 x.entries.length e3]), (some g11, 39, [.int .i64 y.p.r, .int .i64 y.p.n, .slice E1 y.votes.length f1, .int .i64 y.index, .slice E2 y.image.length f2, .slice E3 y.entries.length f3])]) (y.votes.length) ?_ ?_
                  · exact ⟨0, _, rfl, (fn (fn (fn (fn (fn (fs (fn (fs (fn (fs (fs (fs (fs (fs (fs (fs (fn (fn (fn (fn (fn (fn (fn (fn (fn (fn (fn (fn (fn (fn (fn (fn (fn (fn (fn (fn (fn (fn (fn (fn (fn (fn (fn (fn (fn (fn (fn (fn (fn (fn (fn (fn (fn (fn (fn (fn (fn (fn (fn (fn (fn (fn (fn (fn (fn (fn (fn (fn (fn (fn (fn (fn (fn (fn (fn (fn (fn (fn (fn (fn (fn (fn (fn (fn (fn (fn (fn (fn (fn (fn (fn (fn (fn (fn (fn (fn (fn (fn (fn (fn (fn (fn (fn (fn (fn (fn (fn (fn (fn (fn (fn (fn (fn (fn (fn (fn (fn (fn (fn (fn (fn (fn (fn (fn (fn (fn (fn (fn (fn (fn (fn (fn (fn (fn (fn (fn (fn (fn (fn (fn (fn (fn (fn (fn (fn (fn (fn (fn (fn (fn (fn (fn (fn f0))))))))))))))))))))))))))))))))))))))))))))))))))))))))))))))))))))))))))))))))))))))))))))))))))))))))))))))))))))))))))))))))))))))))))))))))))))))))), rfl, Nat.zero_le _, H17⟩
                  · rintro nQ lQ w18 ⟨r, z, rfl, hfit, rfl, hr, H18⟩
                    obtain ⟨j, rfl⟩ := hfit.open
                    refine nR153 ?_
                    clear hfit
                    refine run_seq ?_
                    refine run_seq ?_
                    refine run_region ?_
                    refine ops_val (ex_move rfl) ?_
                    refine ops_val (ex_fieldAddr fl39_1 rfl) ?_
                    refine ops_val (ex_load ty35 rfl (H18.cell (i := 3) rfl rfl)) ?_
                    refine ops_val (ex_len_slice Try.underlying35 rfl) ?_
                    refine nO153 ?_
                    refine ops_test (ex_lss rfl rfl) (fun hp132 => ?_) (fun hp132 => ?_)
                    · have hrv : r < y.votes.length := by omega
                      obtain ⟨uz, hyu⟩ := get_of hrv
                      obtain ⟨pz, hpz1, hRz⟩ := h2vy.get hyu
                      obtain ⟨G2, t2, rfl, _⟩ := hRz
                      obtain ⟨b2, hb2⟩ := hrvy.some_ (by omega)
                      subst hb2
                      refine ops_nil ?_
                      refine nR153 ?_
                      refine run_cond_true rfl ?_
                      refine run_skip ?_
                      refine run_seq ?_
                      refine run_block ?_
                      refine run_still mixed (by kernel_rfl) ?_
                      rintro w19 hw19
                      have H19 := Hp.drew H18; rw [← hw19] at H19
                      refine still_val (ex_move rfl) ?_
                      refine still_val (ex_move rfl) ?_
                      refine nS153 ?_
                      refine still_no rfl ?_
                      refine still_no rfl ?_
                      refine nS153 ?_
                      refine still_no rfl ?_
                      refine still_no rfl ?_
                      refine nS153 ?_
                      refine still_no rfl ?_
                      refine still_no rfl ?_
                      refine nS153 ?_
                      refine still_no rfl ?_
                      refine still_no rfl ?_
                      refine nS153 ?_
                      refine still_no rfl ?_
                      refine still_no rfl ?_
                      refine nS153 ?_
                      refine still_no rfl ?_
                      refine still_no rfl ?_
                      refine nS153 ?_
                      refine still_no rfl ?_
                      refine still_val (ex_pick_t rfl rfl) ?_
                      refine still_val (ex_assign rfl) ?_
                      refine still_nil ?_
                      refine nR153 ?_
                      refine run_nil (blk_normal ?_)
                      refine run_region ?_
                      refine ops_val (ex_move rfl) ?_
                      refine ops_val (ex_add rfl rfl (IntWalk.i64_in _ (by omega))) ?_
                      refine ops_val (ex_assign rfl) ?_
                      refine ops_nil ?_
                      refine nR153 ?_
                      refine run_nil (rnd_normal ?_)
                      exact ⟨y.votes.length - (r + 1), by omega, r + 1, _, rfl, (fn (fn (fn (fn (fn (fs (fn (fs (fn (fs (fs (fs (fs (fs (fs (fs (fn (fn (fn (fn (fn (fn (fn (fn (fn (fn (fn (fn (fn (fn (fn (fn (fn (fn (fn (fn (fn (fn (fn (fn (fn (fn (fn (fn (fn (fn (fn (fn (fn (fn (fn (fn (fn (fn (fn (fn (fn (fn (fn (fn (fn (fn (fn (fn (fn (fn (fn (fn (fn (fn (fn (fn (fn (fn (fn (fn (fn (fn (fn (fn (fn (fn (fn (fn (fn (fn (fn (fn (fn (fn (fn (fn (fn (fn (fn (fn (fn (fn (fn (fn (fn (fn (fn (fn (fn (fn (fn (fn (fn (fn (fn (fn (fn (fn (fn (fn (fn (fn (fn (fn (fn (fn (fn (fn (fn (fn (fn (fn (fn (fn (fn (fn (fn (fn (fn (fn (fn (fn (fn (fn (fn (fn (fn (fn (fn (fn (fn (fn (fn (fn (fn (fn (fn f0))))))))))))))))))))))))))))))))))))))))))))))))))))))))))))))))))))))))))))))))))))))))))))))))))))))))))))))))))))))))))))))))))))))))))))))))))))))))), by omega, by omega, H19⟩
                    · skip
                      refine ops_nil ?_
                      refine nR153 ?_
                      refine run_cond_false rfl ?_
                      refine run_exit ?_
                      refine rnd_exit ?_
                      refine blk_exit ?_
                      refine run_seq ?_
                      refine run_region ?_
                      refine ops_val (ex_move rfl) ?_
                      refine ops_val (ex_not rfl) ?_
                      refine ops_nil ?_
                      refine nR153 ?_
                      refine run_cond_false rfl ?_
                      refine run_skip ?_
                      refine run_nil (blk_normal ?_)
                      refine run_region ?_
                      refine ops_val (ex_move rfl) ?_
                      refine ops_val (ex_add rfl rfl (IntWalk.i64_in _ (by omega))) ?_
                      refine ops_val (ex_assign rfl) ?_
                      refine ops_nil ?_
                      refine nR153 ?_
                      refine run_nil (rnd_normal ?_)
                      exact ⟨x.votes.length - (q + 1), by omega, q + 1, _, rfl, (fn (fn (fn (fn (fn (fs (fn (fs (fn (fs (fs (fs (fs (fs (fn (fn (fn (fn (fn (fn (fn (fn (fn (fn (fn (fn (fn (fn (fn (fn (fn (fn (fn (fn (fn (fn (fn (fn (fn (fn (fn (fn (fn (fn (fn (fn (fn (fn (fn (fn (fn (fn (fn (fn (fn (fn (fn (fn (fn (fn (fn (fn (fn (fn (fn (fn (fn (fn (fn (fn (fn (fn (fn (fn (fn (fn (fn (fn (fn (fn (fn (fn (fn (fn (fn (fn (fn (fn (fn (fn (fn (fn (fn (fn (fn (fn (fn (fn (fn (fn (fn (fn (fn (fn (fn (fn (fn (fn (fn (fn (fn (fn (fn (fn (fn (fn (fn (fn (fn (fn (fn (fn (fn (fn (fn (fn (fn (fn (fn (fn (fn (fn (fn (fn (fn (fn (fn (fn (fn (fn (fn (fn (fn (fn (fn (fn (fn (fn (fn (fn (fn (fn (fn f0))))))))))))))))))))))))))))))))))))))))))))))))))))))))))))))))))))))))))))))))))))))))))))))))))))))))))))))))))))))))))))))))))))))))))))))))))))))))), by omega, by omega, H18⟩
                · obtain ⟨uy, huy, huys⟩ := hgu.resolve_left hp127
                  obtain ⟨kz, hkz⟩ := List.getElem?_of_mem huy
                  have hkzl := (List.getElem?_eq_some_iff.1 hkz).1
                  refine ops_val (ex_assign rfl) ?_
                  refine ops_nil ?_
                  refine nR153 ?_
                  refine run_seq ?_
                  refine run_seq ?_
                  refine run_region ?_
                  refine ops_val (ex_assign rfl) ?_
                  refine ops_nil ?_
                  refine nR153 ?_
                  refine run_block ?_
                  refine run_loop (fun nQ lQ w => ∃ (r : Nat) (z : Int) (c : Bool), y.votes.length - r = nQ ∧ Fits [none, none, none, none, none, some (.pointer (some ⟨g5, 0, none⟩)), none, some (.pointer (some ⟨g7, 0, none⟩)), none, some (.int .i64 (i : Int)), some (.pointer (some ⟨g10, 0, none⟩)), some (.pointer (some ⟨g11, 0, none⟩)), some (.int .i64 (y.index + (y.entries.length : Int))), some (.int .i64 (q : Int)), some (.bool c), some (.int .i64 z), none, none, none, none, none, none, none, none, none, none, none, none, none, none, none, none, none, none, none, none, none, none, none, none, none, none, none, none, none, none, none, none, none, none, none, none, none, none, none, none, none, none, none, none, none, none, none, none, none, none, none, none, none, none, none, none, none, none, none, none, none, none, none, none, none, none, none, none, none, none, none, none, none, none, none, none, none, none, none, none, none, none, none, none, none, none, none, none, none, none, none, none, none, none, none, none, none, none, none, none, none, none, none, none, none, none, none, none, none, none, none, none, none, none, none, none, none, none, none, none, none, none, none, none, none, none, none, none, none, none, none, none, none, none, none, none, none] lQ ∧ z = (r : Int) ∧ r ≤ y.votes.length ∧ (kz < r → c = true) ∧ Hp w10 w (bl [((some g5, 28, [.slice (some a1) a.groups.length x1, .slice X2 a.rights.length x2, .slice X3 a.last.length x3]) : Ent), (some g7, 28, [.slice (some a2) b.groups.length y1, .slice Y2 b.rights.length y2, .slice Y3 b.last.length y3])]) [((some g5, 28, [.slice (some a1) a.groups.length x1, .slice X2 a.rights.length x2, .slice X3 a.last.length x3]) : Ent), (some g7, 28, [.slice (some a2) b.groups.length y1, .slice Y2 b.rights.length y2, .slice Y3 b.last.length y3]), (some g10, 39, [.int .i64 x.p.r, .int .i64 x.p.n, .slice (some b1) x.votes.length e1, .int .i64 x.index, .slice D2 x.image.length e2, .slice D3 x.entries.length e3]), (some g11, 39, [.int .i64 y.p.r, .int .i64 y.p.n, .slice E1 y.votes.length f1, .int .i64 y.index, .slice E2 y.image.length f2, .slice E3 y.entries.length f3])]) (y.votes.length) ?_ ?_
                  · exact ⟨0, _, false, rfl, (fn (fn (fn (fn (fn (fs (fn (fs (fn (fs (fs (fs (fs (fs (fs (fs (fn (fn (fn (fn (fn (fn (fn (fn (fn (fn (fn (fn (fn (fn (fn (fn (fn (fn (fn (fn (fn (fn (fn (fn (fn (fn (fn (fn (fn (fn (fn (fn (fn (fn (fn (fn (fn (fn (fn (fn (fn (fn (fn (fn (fn (fn (fn (fn (fn (fn (fn (fn (fn (fn (fn (fn (fn (fn (fn (fn (fn (fn (fn (fn (fn (fn (fn (fn (fn (fn (fn (fn (fn (fn (fn (fn (fn (fn (fn (fn (fn (fn (fn (fn (fn (fn (fn (fn (fn (fn (fn (fn (fn (fn (fn (fn (fn (fn (fn (fn (fn (fn (fn (fn (fn (fn (fn (fn (fn (fn (fn (fn (fn (fn (fn (fn (fn (fn (fn (fn (fn (fn (fn (fn (fn (fn (fn (fn (fn (fn (fn (fn (fn (fn (fn (fn (fn f0))))))))))))))))))))))))))))))))))))))))))))))))))))))))))))))))))))))))))))))))))))))))))))))))))))))))))))))))))))))))))))))))))))))))))))))))))))))))), rfl, Nat.zero_le _, (fun h => by omega), H17⟩
                  · rintro nQ lQ w18 ⟨r, z, c, rfl, hfit, rfl, hr, hc, H18⟩
                    obtain ⟨j, rfl⟩ := hfit.open
                    refine nR153 ?_
                    clear hfit
                    refine run_seq ?_
                    refine run_seq ?_
                    refine run_region ?_
                    refine ops_val (ex_move rfl) ?_
                    refine ops_val (ex_fieldAddr fl39_1 rfl) ?_
                    refine ops_val (ex_load ty35 rfl (H18.cell (i := 3) rfl rfl)) ?_
                    refine ops_val (ex_len_slice Try.underlying35 rfl) ?_
                    refine nO153 ?_
                    refine ops_test (ex_lss rfl rfl) (fun hp132 => ?_) (fun hp132 => ?_)
                    · have hrv : r < y.votes.length := by omega
                      obtain ⟨uz, hyu⟩ := get_of hrv
                      obtain ⟨pz, hpz1, hRz⟩ := h2vy.get hyu
                      obtain ⟨G2, t2, rfl, _⟩ := hRz
                      obtain ⟨b2, hb2⟩ := hrvy.some_ (by omega)
                      subst hb2
                      refine ops_nil ?_
                      refine nR153 ?_
                      refine run_cond_true rfl ?_
                      refine run_skip ?_
                      refine run_seq ?_
                      refine run_block ?_
                      cases c
                      · skip
                        refine run_still mixed (by kernel_rfl) ?_
                        rintro w19 hw19
                        have H19 := Hp.drew H18; rw [← hw19] at H19
                        refine still_val (ex_move rfl) ?_
                        refine still_val (ex_move rfl) ?_
                        refine nS153 ?_
                        refine still_yes rfl ?_
                        refine still_val (ex_fieldAddr fl39_1 rfl) ?_
                        refine still_yes rfl ?_
                        refine still_val (ex_load ty35 rfl (H19.cell (i := 3) rfl rfl)) ?_
                        refine nS153 ?_
                        refine still_yes rfl ?_
                        refine still_val (ex_move rfl) ?_
                        refine still_yes rfl ?_
                        refine still_val (ex_idx Try.underlying35 ty41 rfl rfl rfl hrv rfl) ?_
                        refine nS153 ?_
                        refine still_yes rfl ?_
                        refine still_val (ex_fieldAddrA fl41_0 rfl) ?_
                        refine still_yes rfl ?_
                        refine still_val (ex_load ty3 rfl ((((hrvy.move (by decide) havy (HB.all H19) hkb).1).elem hpvy hpz1) 0 _ rfl)) ?_
                        refine nS153 ?_
                        refine still_yes rfl ?_
                        refine still_val (ex_fieldAddr fl39_1 rfl) ?_
                        refine still_yes rfl ?_
                        refine still_val (ex_load ty35 rfl (H19.cell (i := 2) rfl rfl)) ?_
                        refine nS153 ?_
                        refine still_yes rfl ?_
                        refine still_val (ex_move rfl) ?_
                        refine still_yes rfl ?_
                        refine still_val (ex_idx Try.underlying35 ty41 rfl rfl rfl hqv rfl) ?_
                        refine nS153 ?_
                        refine still_yes rfl ?_
                        refine still_val (ex_fieldAddrA fl41_0 rfl) ?_
                        refine still_yes rfl ?_
                        refine still_val (ex_load ty3 rfl ((((hrvx.move (by decide) havx (HQ.all (HB.all H19)) k0).1).elem hpvx hpu1) 0 _ rfl)) ?_
                        refine nS153 ?_
                        refine still_yes rfl ?_
                        refine still_test (ex_eql rfl rfl) (fun hp149 => ?_) (fun hp149 => ?_)
                        · skip
                          refine still_val (ex_pick_f rfl rfl) ?_
                          refine still_val (ex_assign rfl) ?_
                          refine still_nil ?_
                          refine nR153 ?_
                          refine run_nil (blk_normal ?_)
                          refine run_region ?_
                          refine ops_val (ex_move rfl) ?_
                          refine ops_val (ex_add rfl rfl (IntWalk.i64_in _ (by omega))) ?_
                          refine ops_val (ex_assign rfl) ?_
                          refine ops_nil ?_
                          refine nR153 ?_
                          refine run_nil (rnd_normal ?_)
                          exact ⟨y.votes.length - (r + 1), by omega, r + 1, _, true, rfl, (fn (fn (fn (fn (fn (fs (fn (fs (fn (fs (fs (fs (fs (fs (fs (fs (fn (fn (fn (fn (fn (fn (fn (fn (fn (fn (fn (fn (fn (fn (fn (fn (fn (fn (fn (fn (fn (fn (fn (fn (fn (fn (fn (fn (fn (fn (fn (fn (fn (fn (fn (fn (fn (fn (fn (fn (fn (fn (fn (fn (fn (fn (fn (fn (fn (fn (fn (fn (fn (fn (fn (fn (fn (fn (fn (fn (fn (fn (fn (fn (fn (fn (fn (fn (fn (fn (fn (fn (fn (fn (fn (fn (fn (fn (fn (fn (fn (fn (fn (fn (fn (fn (fn (fn (fn (fn (fn (fn (fn (fn (fn (fn (fn (fn (fn (fn (fn (fn (fn (fn (fn (fn (fn (fn (fn (fn (fn (fn (fn (fn (fn (fn (fn (fn (fn (fn (fn (fn (fn (fn (fn (fn (fn (fn (fn (fn (fn (fn (fn (fn (fn (fn (fn f0))))))))))))))))))))))))))))))))))))))))))))))))))))))))))))))))))))))))))))))))))))))))))))))))))))))))))))))))))))))))))))))))))))))))))))))))))))))))), by omega, by omega, fun _ => rfl, H19⟩
                        · skip
                          refine still_val (ex_pick_f rfl rfl) ?_
                          refine still_val (ex_assign rfl) ?_
                          refine still_nil ?_
                          refine nR153 ?_
                          refine run_nil (blk_normal ?_)
                          refine run_region ?_
                          refine ops_val (ex_move rfl) ?_
                          refine ops_val (ex_add rfl rfl (IntWalk.i64_in _ (by omega))) ?_
                          refine ops_val (ex_assign rfl) ?_
                          refine ops_nil ?_
                          refine nR153 ?_
                          refine run_nil (rnd_normal ?_)
                          exact ⟨y.votes.length - (r + 1), by omega, r + 1, _, false, rfl, (fn (fn (fn (fn (fn (fs (fn (fs (fn (fs (fs (fs (fs (fs (fs (fs (fn (fn (fn (fn (fn (fn (fn (fn (fn (fn (fn (fn (fn (fn (fn (fn (fn (fn (fn (fn (fn (fn (fn (fn (fn (fn (fn (fn (fn (fn (fn (fn (fn (fn (fn (fn (fn (fn (fn (fn (fn (fn (fn (fn (fn (fn (fn (fn (fn (fn (fn (fn (fn (fn (fn (fn (fn (fn (fn (fn (fn (fn (fn (fn (fn (fn (fn (fn (fn (fn (fn (fn (fn (fn (fn (fn (fn (fn (fn (fn (fn (fn (fn (fn (fn (fn (fn (fn (fn (fn (fn (fn (fn (fn (fn (fn (fn (fn (fn (fn (fn (fn (fn (fn (fn (fn (fn (fn (fn (fn (fn (fn (fn (fn (fn (fn (fn (fn (fn (fn (fn (fn (fn (fn (fn (fn (fn (fn (fn (fn (fn (fn (fn (fn (fn (fn (fn f0))))))))))))))))))))))))))))))))))))))))))))))))))))))))))))))))))))))))))))))))))))))))))))))))))))))))))))))))))))))))))))))))))))))))))))))))))))))))), by omega, by omega, fun hk => (show False from by
                            rcases Nat.lt_or_ge kz r with h1 | h1
                            · exact absurd (hc h1) (by decide)
                            · obtain rfl : kz = r := by omega
                              rw [hyu] at hkz
                              cases hkz
                              exact hp149 huys).elim, H19⟩
                      · skip
                        refine run_still mixed (by kernel_rfl) ?_
                        rintro w19 hw19
                        have H19 := Hp.drew H18; rw [← hw19] at H19
                        refine still_val (ex_move rfl) ?_
                        refine still_val (ex_move rfl) ?_
                        refine nS153 ?_
                        refine still_no rfl ?_
                        refine still_no rfl ?_
                        refine nS153 ?_
                        refine still_no rfl ?_
                        refine still_no rfl ?_
                        refine nS153 ?_
                        refine still_no rfl ?_
                        refine still_no rfl ?_
                        refine nS153 ?_
                        refine still_no rfl ?_
                        refine still_no rfl ?_
                        refine nS153 ?_
                        refine still_no rfl ?_
                        refine still_no rfl ?_
                        refine nS153 ?_
                        refine still_no rfl ?_
                        refine still_no rfl ?_
                        refine nS153 ?_
                        refine still_no rfl ?_
                        refine still_val (ex_pick_t rfl rfl) ?_
                        refine still_val (ex_assign rfl) ?_
                        refine still_nil ?_
                        refine nR153 ?_
                        refine run_nil (blk_normal ?_)
                        refine run_region ?_
                        refine ops_val (ex_move rfl) ?_
                        refine ops_val (ex_add rfl rfl (IntWalk.i64_in _ (by omega))) ?_
                        refine ops_val (ex_assign rfl) ?_
                        refine ops_nil ?_
                        refine nR153 ?_
                        refine run_nil (rnd_normal ?_)
                        exact ⟨y.votes.length - (r + 1), by omega, r + 1, _, true, rfl, (fn (fn (fn (fn (fn (fs (fn (fs (fn (fs (fs (fs (fs (fs (fs (fs (fn (fn (fn (fn (fn (fn (fn (fn (fn (fn (fn (fn (fn (fn (fn (fn (fn (fn (fn (fn (fn (fn (fn (fn (fn (fn (fn (fn (fn (fn (fn (fn (fn (fn (fn (fn (fn (fn (fn (fn (fn (fn (fn (fn (fn (fn (fn (fn (fn (fn (fn (fn (fn (fn (fn (fn (fn (fn (fn (fn (fn (fn (fn (fn (fn (fn (fn (fn (fn (fn (fn (fn (fn (fn (fn (fn (fn (fn (fn (fn (fn (fn (fn (fn (fn (fn (fn (fn (fn (fn (fn (fn (fn (fn (fn (fn (fn (fn (fn (fn (fn (fn (fn (fn (fn (fn (fn (fn (fn (fn (fn (fn (fn (fn (fn (fn (fn (fn (fn (fn (fn (fn (fn (fn (fn (fn (fn (fn (fn (fn (fn (fn (fn (fn (fn (fn (fn f0))))))))))))))))))))))))))))))))))))))))))))))))))))))))))))))))))))))))))))))))))))))))))))))))))))))))))))))))))))))))))))))))))))))))))))))))))))))))), by omega, by omega, fun _ => rfl, H19⟩
                    · obtain rfl : c = true := hc (by omega)
                      refine ops_nil ?_
                      refine nR153 ?_
                      refine run_cond_false rfl ?_
                      refine run_exit ?_
                      refine rnd_exit ?_
                      refine blk_exit ?_
                      refine run_seq ?_
                      refine run_region ?_
                      refine ops_val (ex_move rfl) ?_
                      refine ops_val (ex_not rfl) ?_
                      refine ops_nil ?_
                      refine nR153 ?_
                      refine run_cond_false rfl ?_
                      refine run_skip ?_
                      refine run_nil (blk_normal ?_)
                      refine run_region ?_
                      refine ops_val (ex_move rfl) ?_
                      refine ops_val (ex_add rfl rfl (IntWalk.i64_in _ (by omega))) ?_
                      refine ops_val (ex_assign rfl) ?_
                      refine ops_nil ?_
                      refine nR153 ?_
                      refine run_nil (rnd_normal ?_)
                      exact ⟨x.votes.length - (q + 1), by omega, q + 1, _, rfl, (fn (fn (fn (fn (fn (fs (fn (fs (fn (fs (fs (fs (fs (fs (fn (fn (fn (fn (fn (fn (fn (fn (fn (fn (fn (fn (fn (fn (fn (fn (fn (fn (fn (fn (fn (fn (fn (fn (fn (fn (fn (fn (fn (fn (fn (fn (fn (fn (fn (fn (fn (fn (fn (fn (fn (fn (fn (fn (fn (fn (fn (fn (fn (fn (fn (fn (fn (fn (fn (fn (fn (fn (fn (fn (fn (fn (fn (fn (fn (fn (fn (fn (fn (fn (fn (fn (fn (fn (fn (fn (fn (fn (fn (fn (fn (fn (fn (fn (fn (fn (fn (fn (fn (fn (fn (fn (fn (fn (fn (fn (fn (fn (fn (fn (fn (fn (fn (fn (fn (fn (fn (fn (fn (fn (fn (fn (fn (fn (fn (fn (fn (fn (fn (fn (fn (fn (fn (fn (fn (fn (fn (fn (fn (fn (fn (fn (fn (fn (fn (fn (fn (fn (fn f0))))))))))))))))))))))))))))))))))))))))))))))))))))))))))))))))))))))))))))))))))))))))))))))))))))))))))))))))))))))))))))))))))))))))))))))))))))))))), by omega, by omega, H18⟩
              · skip
                refine ops_nil ?_
                refine nR153 ?_
                refine run_cond_false rfl ?_
                refine run_exit ?_
                refine rnd_exit ?_
                refine blk_exit ?_
                refine run_nil (blk_normal ?_)
                refine run_region ?_
                refine ops_val (ex_move rfl) ?_
                refine ops_val (ex_add rfl rfl (IntWalk.i64_in _ (by omega))) ?_
                refine ops_val (ex_assign rfl) ?_
                refine ops_nil ?_
                refine nR153 ?_
                refine run_nil (rnd_normal ?_)
                exact ⟨8 - (i + 1), by omega, i + 1, _, rfl, (fn (fn (fn (fn (fn (fs (fn (fs (fn (fs (fn (fn (fn (fn (fn (fn (fn (fn (fn (fn (fn (fn (fn (fn (fn (fn (fn (fn (fn (fn (fn (fn (fn (fn (fn (fn (fn (fn (fn (fn (fn (fn (fn (fn (fn (fn (fn (fn (fn (fn (fn (fn (fn (fn (fn (fn (fn (fn (fn (fn (fn (fn (fn (fn (fn (fn (fn (fn (fn (fn (fn (fn (fn (fn (fn (fn (fn (fn (fn (fn (fn (fn (fn (fn (fn (fn (fn (fn (fn (fn (fn (fn (fn (fn (fn (fn (fn (fn (fn (fn (fn (fn (fn (fn (fn (fn (fn (fn (fn (fn (fn (fn (fn (fn (fn (fn (fn (fn (fn (fn (fn (fn (fn (fn (fn (fn (fn (fn (fn (fn (fn (fn (fn (fn (fn (fn (fn (fn (fn (fn (fn (fn (fn (fn (fn (fn (fn (fn (fn (fn (fn (fn (fn f0))))))))))))))))))))))))))))))))))))))))))))))))))))))))))))))))))))))))))))))))))))))))))))))))))))))))))))))))))))))))))))))))))))))))))))))))))))))))), by omega, by omega, H17.pick [0, 1] (by decide)⟩
          · skip
            refine ops_yes rfl ?_
            refine ops_val (ex_move rfl) ?_
            refine ops_no rfl ?_
            refine nO153 ?_
            refine ops_no rfl ?_
            refine ops_no rfl ?_
            refine nO153 ?_
            refine ops_no rfl ?_
            refine ops_no rfl ?_
            refine nO153 ?_
            refine ops_no rfl ?_
            refine ops_no rfl ?_
            refine nO153 ?_
            refine ops_yes rfl ?_
            refine ops_val (ex_pick_f rfl rfl) ?_
            refine ops_val (ex_pick_f rfl rfl) ?_
            refine ops_val (ex_move rfl) ?_
            refine nO153 ?_
            refine ops_yes rfl ?_
            refine ops_val (ex_move rfl) ?_
            refine ops_yes rfl ?_
            refine ops_val (ex_fieldAddr fl39_2 rfl) ?_
            refine nO153 ?_
            refine ops_yes rfl ?_
            refine ops_val (ex_load ty3 rfl (H16.cell (i := 2) rfl rfl)) ?_
            refine ops_yes rfl ?_
            refine ops_val (ex_fieldAddr fl39_4 rfl) ?_
            refine nO153 ?_
            refine ops_yes rfl ?_
            refine ops_val (ex_load ty37 rfl (H16.cell (i := 2) rfl rfl)) ?_
            refine ops_yes rfl ?_
            refine ops_val (ex_len_slice Try.underlying37 rfl) ?_
            refine nO153 ?_
            refine ops_yes rfl ?_
            refine ops_val (ex_add rfl rfl (IntWalk.i64_in _ (by omega))) ?_
            refine ops_yes rfl ?_
            refine ops_false (ex_lss rfl rfl) (by omega) ?_
            refine nO153 ?_
            refine ops_yes rfl ?_
            refine ops_val (ex_move rfl) ?_
            refine ops_no rfl ?_
            refine nO153 ?_
            refine ops_no rfl ?_
            refine ops_no rfl ?_
            refine nO153 ?_
            refine ops_no rfl ?_
            refine ops_no rfl ?_
            refine nO153 ?_
            refine ops_yes rfl ?_
            refine ops_val (ex_pick_f rfl rfl) ?_
            refine ops_val (ex_pick_f rfl rfl) ?_
            refine ops_val (ex_move rfl) ?_
            refine nO153 ?_
            refine ops_yes rfl ?_
            refine ops_val (ex_fieldAddr fl39_2 rfl) ?_
            refine ops_yes rfl ?_
            refine ops_val (ex_load ty3 rfl (H16.cell (i := 3) rfl rfl)) ?_
            refine nO153 ?_
            refine ops_yes rfl ?_
            refine ops_val (ex_fieldAddr fl39_2 rfl) ?_
            refine ops_yes rfl ?_
            refine ops_val (ex_load ty3 rfl (H16.cell (i := 2) rfl rfl)) ?_
            refine nO153 ?_
            refine ops_yes rfl ?_
            refine ops_false (ex_lss rfl rfl) (by omega) ?_
            refine ops_val (ex_pick_f rfl rfl) ?_
            refine ops_nil ?_
            refine nR153 ?_
            refine run_cond_false rfl ?_
            refine run_skip ?_
            refine run_seq ?_
            refine run_region ?_
            refine ops_val (ex_assign rfl) ?_
            refine ops_nil ?_
            refine nR153 ?_
            refine run_block ?_
            refine run_loop (fun nQ lQ w => ∃ (q : Nat) (z : Int), x.votes.length - q = nQ ∧ Fits [none, none, none, none, none, some (.pointer (some ⟨g5, 0, none⟩)), none, some (.pointer (some ⟨g7, 0, none⟩)), none, some (.int .i64 (i : Int)), some (.pointer (some ⟨g10, 0, none⟩)), some (.pointer (some ⟨g11, 0, none⟩)), some (.int .i64 (y.index + (y.entries.length : Int))), some (.int .i64 z), none, none, none, none, none, none, none, none, none, none, none, none, none, none, none, none, none, none, none, none, none, none, none, none, none, none, none, none, none, none, none, none, none, none, none, none, none, none, none, none, none, none, none, none, none, none, none, none, none, none, none, none, none, none, none, none, none, none, none, none, none, none, none, none, none, none, none, none, none, none, none, none, none, none, none, none, none, none, none, none, none, none, none, none, none, none, none, none, none, none, none, none, none, none, none, none, none, none, none, none, none, none, none, none, none, none, none, none, none, none, none, none, none, none, none, none, none, none, none, none, none, none, none, none, none, none, none, none, none, none, none, none, none, none, none, none, none, none, none] lQ ∧ z = (q : Int) ∧ q ≤ x.votes.length ∧ Hp w10 w (bl [((some g5, 28, [.slice (some a1) a.groups.length x1, .slice X2 a.rights.length x2, .slice X3 a.last.length x3]) : Ent), (some g7, 28, [.slice (some a2) b.groups.length y1, .slice Y2 b.rights.length y2, .slice Y3 b.last.length y3])]) [((some g5, 28, [.slice (some a1) a.groups.length x1, .slice X2 a.rights.length x2, .slice X3 a.last.length x3]) : Ent), (some g7, 28, [.slice (some a2) b.groups.length y1, .slice Y2 b.rights.length y2, .slice Y3 b.last.length y3]), (some g10, 39, [.int .i64 x.p.r, .int .i64 x.p.n, .slice D1 x.votes.length e1, .int .i64 x.index, .slice D2 x.image.length e2, .slice D3 x.entries.length e3]), (some g11, 39, [.int .i64 y.p.r, .int .i64 y.p.n, .slice E1 y.votes.length f1, .int .i64 y.index, .slice E2 y.image.length f2, .slice E3 y.entries.length f3])]) (x.votes.length) ?_ ?_
            · exact ⟨0, _, rfl, (fn (fn (fn (fn (fn (fs (fn (fs (fn (fs (fs (fs (fs (fs (fn (fn (fn (fn (fn (fn (fn (fn (fn (fn (fn (fn (fn (fn (fn (fn (fn (fn (fn (fn (fn (fn (fn (fn (fn (fn (fn (fn (fn (fn (fn (fn (fn (fn (fn (fn (fn (fn (fn (fn (fn (fn (fn (fn (fn (fn (fn (fn (fn (fn (fn (fn (fn (fn (fn (fn (fn (fn (fn (fn (fn (fn (fn (fn (fn (fn (fn (fn (fn (fn (fn (fn (fn (fn (fn (fn (fn (fn (fn (fn (fn (fn (fn (fn (fn (fn (fn (fn (fn (fn (fn (fn (fn (fn (fn (fn (fn (fn (fn (fn (fn (fn (fn (fn (fn (fn (fn (fn (fn (fn (fn (fn (fn (fn (fn (fn (fn (fn (fn (fn (fn (fn (fn (fn (fn (fn (fn (fn (fn (fn (fn (fn (fn (fn (fn (fn (fn (fn (fn f0))))))))))))))))))))))))))))))))))))))))))))))))))))))))))))))))))))))))))))))))))))))))))))))))))))))))))))))))))))))))))))))))))))))))))))))))))))))))), rfl, Nat.zero_le _, H16⟩
            · rintro nQ lQ w17 ⟨q, z, rfl, hfit, rfl, hq, H17⟩
              obtain ⟨j, rfl⟩ := hfit.open
              refine nR153 ?_
              clear hfit
              refine run_seq ?_
              refine run_seq ?_
              refine run_region ?_
              refine ops_val (ex_move rfl) ?_
              refine ops_val (ex_fieldAddr fl39_1 rfl) ?_
              refine ops_val (ex_load ty35 rfl (H17.cell (i := 2) rfl rfl)) ?_
              refine ops_val (ex_len_slice Try.underlying35 rfl) ?_
              refine nO153 ?_
              refine ops_test (ex_lss rfl rfl) (fun hp117 => ?_) (fun hp117 => ?_)
              · have hqv : q < x.votes.length := by omega
                obtain ⟨u, hxu⟩ := get_of hqv
                obtain ⟨pu, hpu1, hRu⟩ := h2vx.get hxu
                obtain ⟨G1, t1, rfl, _⟩ := hRu
                obtain ⟨b1, hb1⟩ := hrvx.some_ (by omega)
                subst hb1
                have hgu := hge.v u (mem_of hxu)
                refine ops_nil ?_
                refine nR153 ?_
                refine run_cond_true rfl ?_
                refine run_skip ?_
                refine run_seq ?_
                refine run_block ?_
                refine run_seq ?_
                refine run_region ?_
                refine ops_val (ex_fieldAddr fl39_1 rfl) ?_
                refine ops_val (ex_load ty35 rfl (H17.cell (i := 2) rfl rfl)) ?_
                refine ops_val (ex_move rfl) ?_
                refine ops_val (ex_idx Try.underlying35 ty41 rfl rfl rfl hqv rfl) ?_
                refine nO153 ?_
                refine ops_val (ex_fieldAddrA fl41_0 rfl) ?_
                refine ops_val (ex_load ty3 rfl ((((hrvx.move (by decide) havx (HQ.all (HB.all H17)) k0).1).elem hpvx hpu1) 0 _ rfl)) ?_
                refine ops_val (ex_move rfl) ?_
                refine ops_test (ex_leq rfl rfl) (fun hp127 => ?_) (fun hp127 => ?_)
                · skip
                  refine ops_val (ex_assign rfl) ?_
                  refine ops_nil ?_
                  refine nR153 ?_
                  refine run_seq ?_
                  refine run_seq ?_
                  refine run_region ?_
                  refine ops_val (ex_assign rfl) ?_
                  refine ops_nil ?_
                  refine nR153 ?_
                  refine run_block ?_
                  refine run_loop (fun nQ lQ w => ∃ (r : Nat) (z : Int), y.votes.length - r = nQ ∧ Fits [none, none, none, none, none, some (.pointer (some ⟨g5, 0, none⟩)), none, some (.pointer (some ⟨g7, 0, none⟩)), none, some (.int .i64 (i : Int)), some (.pointer (some ⟨g10, 0, none⟩)), some (.pointer (some ⟨g11, 0, none⟩)), some (.int .i64 (y.index + (y.entries.length : Int))), some (.int .i64 (q : Int)), some (.bool true), some (.int .i64 z), none, none, none, none, none, none, none, none, none, none, none, none, none, none, none, none, none, none, none, none, none, none, none, none, none, none, none, none, none, none, none, none, none, none, none, none, none, none, none, none, none, none, none, none, none, none, none, none, none, none, none, none, none, none, none, none, none, none, none, none, none, none, none, none, none, none, none, none, none, none, none, none, none, none, none, none, none, none, none, none, none, none, none, none, none, none, none, none, none, none, none, none, none, none, none, none, none, none, none, none, none, none, none, none, none, none, none, none, none, none, none, none, none, none, none, none, none, none, none, none, none, none, none, none, none, none, none, none, none, none, none, none, none, none, none, none, none] lQ ∧ z = (r : Int) ∧ r ≤ y.votes.length ∧ Hp w10 w (bl [((some g5, 28, [.slice (some a1) a.groups.length x1, .slice X2 a.rights.length x2, .slice X3 a.last.length x3]) : Ent), (some g7, 28, [.slice (some a2) b.groups.length y1, .slice Y2 b.rights.length y2, .slice Y3 b.last.length y3])]) [((some g5, 28, [.slice (some a1) a.groups.length x1, .slice X2 a.rights.length x2, .slice X3 a.last.length x3]) : Ent), (some g7, 28, [.slice (some a2) b.groups.length y1, .slice Y2 b.rights.length y2, .slice Y3 b.last.length y3]), (some g10, 39, [.int .i64 x.p.r, .int .i64 x.p.n, .slice (some b1) x.votes.length e1, .int .i64 x.index, .slice D2 x.image.length e2, .slice D3 x.entries.length e3]), (some g11, 39, [.int .i64 y.p.r, .int .i64 y.p.n, .slice E1 y.votes.length f1, .int .i64 y.index, .slice E2 y.image.length f2, .slice E3 y.entries.length f3])]) (y.votes.length) ?_ ?_
                  · exact ⟨0, _, rfl, (fn (fn (fn (fn (fn (fs (fn (fs (fn (fs (fs (fs (fs (fs (fs (fs (fn (fn (fn (fn (fn (fn (fn (fn (fn (fn (fn (fn (fn (fn (fn (fn (fn (fn (fn (fn (fn (fn (fn (fn (fn (fn (fn (fn (fn (fn (fn (fn (fn (fn (fn (fn (fn (fn (fn (fn (fn (fn (fn (fn (fn (fn (fn (fn (fn (fn (fn (fn (fn (fn (fn (fn (fn (fn (fn (fn (fn (fn (fn (fn (fn (fn (fn (fn (fn (fn (fn (fn (fn (fn (fn (fn (fn (fn (fn (fn (fn (fn (fn (fn (fn (fn (fn (fn (fn (fn (fn (fn (fn (fn (fn (fn (fn (fn (fn (fn (fn (fn (fn (fn (fn (fn (fn (fn (fn (fn (fn (fn (fn (fn (fn (fn (fn (fn (fn (fn (fn (fn (fn (fn (fn (fn (fn (fn (fn (fn (fn (fn (fn (fn (fn (fn (fn f0))))))))))))))))))))))))))))))))))))))))))))))))))))))))))))))))))))))))))))))))))))))))))))))))))))))))))))))))))))))))))))))))))))))))))))))))))))))))), rfl, Nat.zero_le _, H17⟩
                  · rintro nQ lQ w18 ⟨r, z, rfl, hfit, rfl, hr, H18⟩
                    obtain ⟨j, rfl⟩ := hfit.open
                    refine nR153 ?_
                    clear hfit
                    refine run_seq ?_
                    refine run_seq ?_
                    refine run_region ?_
                    refine ops_val (ex_move rfl) ?_
                    refine ops_val (ex_fieldAddr fl39_1 rfl) ?_
                    refine ops_val (ex_load ty35 rfl (H18.cell (i := 3) rfl rfl)) ?_
                    refine ops_val (ex_len_slice Try.underlying35 rfl) ?_
                    refine nO153 ?_
                    refine ops_test (ex_lss rfl rfl) (fun hp132 => ?_) (fun hp132 => ?_)
                    · have hrv : r < y.votes.length := by omega
                      obtain ⟨uz, hyu⟩ := get_of hrv
                      obtain ⟨pz, hpz1, hRz⟩ := h2vy.get hyu
                      obtain ⟨G2, t2, rfl, _⟩ := hRz
                      obtain ⟨b2, hb2⟩ := hrvy.some_ (by omega)
                      subst hb2
                      refine ops_nil ?_
                      refine nR153 ?_
                      refine run_cond_true rfl ?_
                      refine run_skip ?_
                      refine run_seq ?_
                      refine run_block ?_
                      refine run_still mixed (by kernel_rfl) ?_
                      rintro w19 hw19
                      have H19 := Hp.drew H18; rw [← hw19] at H19
                      refine still_val (ex_move rfl) ?_
                      refine still_val (ex_move rfl) ?_
                      refine nS153 ?_
                      refine still_no rfl ?_
                      refine still_no rfl ?_
                      refine nS153 ?_
                      refine still_no rfl ?_
                      refine still_no rfl ?_
                      refine nS153 ?_
                      refine still_no rfl ?_
                      refine still_no rfl ?_
                      refine nS153 ?_
                      refine still_no rfl ?_
                      refine still_no rfl ?_
                      refine nS153 ?_
                      refine still_no rfl ?_
                      refine still_no rfl ?_
                      refine nS153 ?_
                      refine still_no rfl ?_
                      refine still_no rfl ?_
                      refine nS153 ?_
                      refine still_no rfl ?_
                      refine still_val (ex_pick_t rfl rfl) ?_
                      refine still_val (ex_assign rfl) ?_
                      refine still_nil ?_
                      refine nR153 ?_
                      refine run_nil (blk_normal ?_)
                      refine run_region ?_
                      refine ops_val (ex_move rfl) ?_
                      refine ops_val (ex_add rfl rfl (IntWalk.i64_in _ (by omega))) ?_
                      refine ops_val (ex_assign rfl) ?_
                      refine ops_nil ?_
                      refine nR153 ?_
                      refine run_nil (rnd_normal ?_)
                      exact ⟨y.votes.length - (r + 1), by omega, r + 1, _, rfl, (fn (fn (fn (fn (fn (fs (fn (fs (fn (fs (fs (fs (fs (fs (fs (fs (fn (fn (fn (fn (fn (fn (fn (fn (fn (fn (fn (fn (fn (fn (fn (fn (fn (fn (fn (fn (fn (fn (fn (fn (fn (fn (fn (fn (fn (fn (fn (fn (fn (fn (fn (fn (fn (fn (fn (fn (fn (fn (fn (fn (fn (fn (fn (fn (fn (fn (fn (fn (fn (fn (fn (fn (fn (fn (fn (fn (fn (fn (fn (fn (fn (fn (fn (fn (fn (fn (fn (fn (fn (fn (fn (fn (fn (fn (fn (fn (fn (fn (fn (fn (fn (fn (fn (fn (fn (fn (fn (fn (fn (fn (fn (fn (fn (fn (fn (fn (fn (fn (fn (fn (fn (fn (fn (fn (fn (fn (fn (fn (fn (fn (fn (fn (fn (fn (fn (fn (fn (fn (fn (fn (fn (fn (fn (fn (fn (fn (fn (fn (fn (fn (fn (fn (fn f0))))))))))))))))))))))))))))))))))))))))))))))))))))))))))))))))))))))))))))))))))))))))))))))))))))))))))))))))))))))))))))))))))))))))))))))))))))))))), by omega, by omega, H19⟩
                    · skip
                      refine ops_nil ?_
                      refine nR153 ?_
                      refine run_cond_false rfl ?_
                      refine run_exit ?_
                      refine rnd_exit ?_
                      refine blk_exit ?_
                      refine run_seq ?_
                      refine run_region ?_
                      refine ops_val (ex_move rfl) ?_
                      refine ops_val (ex_not rfl) ?_
                      refine ops_nil ?_
                      refine nR153 ?_
                      refine run_cond_false rfl ?_
                      refine run_skip ?_
                      refine run_nil (blk_normal ?_)
                      refine run_region ?_
                      refine ops_val (ex_move rfl) ?_
                      refine ops_val (ex_add rfl rfl (IntWalk.i64_in _ (by omega))) ?_
                      refine ops_val (ex_assign rfl) ?_
                      refine ops_nil ?_
                      refine nR153 ?_
                      refine run_nil (rnd_normal ?_)
                      exact ⟨x.votes.length - (q + 1), by omega, q + 1, _, rfl, (fn (fn (fn (fn (fn (fs (fn (fs (fn (fs (fs (fs (fs (fs (fn (fn (fn (fn (fn (fn (fn (fn (fn (fn (fn (fn (fn (fn (fn (fn (fn (fn (fn (fn (fn (fn (fn (fn (fn (fn (fn (fn (fn (fn (fn (fn (fn (fn (fn (fn (fn (fn (fn (fn (fn (fn (fn (fn (fn (fn (fn (fn (fn (fn (fn (fn (fn (fn (fn (fn (fn (fn (fn (fn (fn (fn (fn (fn (fn (fn (fn (fn (fn (fn (fn (fn (fn (fn (fn (fn (fn (fn (fn (fn (fn (fn (fn (fn (fn (fn (fn (fn (fn (fn (fn (fn (fn (fn (fn (fn (fn (fn (fn (fn (fn (fn (fn (fn (fn (fn (fn (fn (fn (fn (fn (fn (fn (fn (fn (fn (fn (fn (fn (fn (fn (fn (fn (fn (fn (fn (fn (fn (fn (fn (fn (fn (fn (fn (fn (fn (fn (fn (fn f0))))))))))))))))))))))))))))))))))))))))))))))))))))))))))))))))))))))))))))))))))))))))))))))))))))))))))))))))))))))))))))))))))))))))))))))))))))))))), by omega, by omega, H18⟩
                · obtain ⟨uy, huy, huys⟩ := hgu.resolve_left hp127
                  obtain ⟨kz, hkz⟩ := List.getElem?_of_mem huy
                  have hkzl := (List.getElem?_eq_some_iff.1 hkz).1
                  refine ops_val (ex_assign rfl) ?_
                  refine ops_nil ?_
                  refine nR153 ?_
                  refine run_seq ?_
                  refine run_seq ?_
                  refine run_region ?_
                  refine ops_val (ex_assign rfl) ?_
                  refine ops_nil ?_
                  refine nR153 ?_
                  refine run_block ?_
                  refine run_loop (fun nQ lQ w => ∃ (r : Nat) (z : Int) (c : Bool), y.votes.length - r = nQ ∧ Fits [none, none, none, none, none, some (.pointer (some ⟨g5, 0, none⟩)), none, some (.pointer (some ⟨g7, 0, none⟩)), none, some (.int .i64 (i : Int)), some (.pointer (some ⟨g10, 0, none⟩)), some (.pointer (some ⟨g11, 0, none⟩)), some (.int .i64 (y.index + (y.entries.length : Int))), some (.int .i64 (q : Int)), some (.bool c), some (.int .i64 z), none, none, none, none, none, none, none, none, none, none, none, none, none, none, none, none, none, none, none, none, none, none, none, none, none, none, none, none, none, none, none, none, none, none, none, none, none, none, none, none, none, none, none, none, none, none, none, none, none, none, none, none, none, none, none, none, none, none, none, none, none, none, none, none, none, none, none, none, none, none, none, none, none, none, none, none, none, none, none, none, none, none, none, none, none, none, none, none, none, none, none, none, none, none, none, none, none, none, none, none, none, none, none, none, none, none, none, none, none, none, none, none, none, none, none, none, none, none, none, none, none, none, none, none, none, none, none, none, none, none, none, none, none, none, none, none, none] lQ ∧ z = (r : Int) ∧ r ≤ y.votes.length ∧ (kz < r → c = true) ∧ Hp w10 w (bl [((some g5, 28, [.slice (some a1) a.groups.length x1, .slice X2 a.rights.length x2, .slice X3 a.last.length x3]) : Ent), (some g7, 28, [.slice (some a2) b.groups.length y1, .slice Y2 b.rights.length y2, .slice Y3 b.last.length y3])]) [((some g5, 28, [.slice (some a1) a.groups.length x1, .slice X2 a.rights.length x2, .slice X3 a.last.length x3]) : Ent), (some g7, 28, [.slice (some a2) b.groups.length y1, .slice Y2 b.rights.length y2, .slice Y3 b.last.length y3]), (some g10, 39, [.int .i64 x.p.r, .int .i64 x.p.n, .slice (some b1) x.votes.length e1, .int .i64 x.index, .slice D2 x.image.length e2, .slice D3 x.entries.length e3]), (some g11, 39, [.int .i64 y.p.r, .int .i64 y.p.n, .slice E1 y.votes.length f1, .int .i64 y.index, .slice E2 y.image.length f2, .slice E3 y.entries.length f3])]) (y.votes.length) ?_ ?_
                  · exact ⟨0, _, false, rfl, (fn (fn (fn (fn (fn (fs (fn (fs (fn (fs (fs (fs (fs (fs (fs (fs (fn (fn (fn (fn (fn (fn (fn (fn (fn (fn (fn (fn (fn (fn (fn (fn (fn (fn (fn (fn (fn (fn (fn (fn (fn (fn (fn (fn (fn (fn (fn (fn (fn (fn (fn (fn (fn (fn (fn (fn (fn (fn (fn (fn (fn (fn (fn (fn (fn (fn (fn (fn (fn (fn (fn (fn (fn (fn (fn (fn (fn (fn (fn (fn (fn (fn (fn (fn (fn (fn (fn (fn (fn (fn (fn (fn (fn (fn (fn (fn (fn (fn (fn (fn (fn (fn (fn (fn (fn (fn (fn (fn (fn (fn (fn (fn (fn (fn (fn (fn (fn (fn (fn (fn (fn (fn (fn (fn (fn (fn (fn (fn (fn (fn (fn (fn (fn (fn (fn (fn (fn (fn (fn (fn (fn (fn (fn (fn (fn (fn (fn (fn (fn (fn (fn (fn (fn f0))))))))))))))))))))))))))))))))))))))))))))))))))))))))))))))))))))))))))))))))))))))))))))))))))))))))))))))))))))))))))))))))))))))))))))))))))))))))), rfl, Nat.zero_le _, (fun h => by omega), H17⟩
                  · rintro nQ lQ w18 ⟨r, z, c, rfl, hfit, rfl, hr, hc, H18⟩
                    obtain ⟨j, rfl⟩ := hfit.open
                    refine nR153 ?_
                    clear hfit
                    refine run_seq ?_
                    refine run_seq ?_
                    refine run_region ?_
                    refine ops_val (ex_move rfl) ?_
                    refine ops_val (ex_fieldAddr fl39_1 rfl) ?_
                    refine ops_val (ex_load ty35 rfl (H18.cell (i := 3) rfl rfl)) ?_
                    refine ops_val (ex_len_slice Try.underlying35 rfl) ?_
                    refine nO153 ?_
                    refine ops_test (ex_lss rfl rfl) (fun hp132 => ?_) (fun hp132 => ?_)
                    · have hrv : r < y.votes.length := by omega
                      obtain ⟨uz, hyu⟩ := get_of hrv
                      obtain ⟨pz, hpz1, hRz⟩ := h2vy.get hyu
                      obtain ⟨G2, t2, rfl, _⟩ := hRz
                      obtain ⟨b2, hb2⟩ := hrvy.some_ (by omega)
                      subst hb2
                      refine ops_nil ?_
                      refine nR153 ?_
                      refine run_cond_true rfl ?_
                      refine run_skip ?_
                      refine run_seq ?_
                      refine run_block ?_
                      cases c
                      · skip
                        refine run_still mixed (by kernel_rfl) ?_
                        rintro w19 hw19
                        have H19 := Hp.drew H18; rw [← hw19] at H19
                        refine still_val (ex_move rfl) ?_
                        refine still_val (ex_move rfl) ?_
                        refine nS153 ?_
                        refine still_yes rfl ?_
                        refine still_val (ex_fieldAddr fl39_1 rfl) ?_
                        refine still_yes rfl ?_
                        refine still_val (ex_load ty35 rfl (H19.cell (i := 3) rfl rfl)) ?_
                        refine nS153 ?_
                        refine still_yes rfl ?_
                        refine still_val (ex_move rfl) ?_
                        refine still_yes rfl ?_
                        refine still_val (ex_idx Try.underlying35 ty41 rfl rfl rfl hrv rfl) ?_
                        refine nS153 ?_
                        refine still_yes rfl ?_
                        refine still_val (ex_fieldAddrA fl41_0 rfl) ?_
                        refine still_yes rfl ?_
                        refine still_val (ex_load ty3 rfl ((((hrvy.move (by decide) havy (HB.all H19) hkb).1).elem hpvy hpz1) 0 _ rfl)) ?_
                        refine nS153 ?_
                        refine still_yes rfl ?_
                        refine still_val (ex_fieldAddr fl39_1 rfl) ?_
                        refine still_yes rfl ?_
                        refine still_val (ex_load ty35 rfl (H19.cell (i := 2) rfl rfl)) ?_
                        refine nS153 ?_
                        refine still_yes rfl ?_
                        refine still_val (ex_move rfl) ?_
                        refine still_yes rfl ?_
                        refine still_val (ex_idx Try.underlying35 ty41 rfl rfl rfl hqv rfl) ?_
                        refine nS153 ?_
                        refine still_yes rfl ?_
                        refine still_val (ex_fieldAddrA fl41_0 rfl) ?_
                        refine still_yes rfl ?_
                        refine still_val (ex_load ty3 rfl ((((hrvx.move (by decide) havx (HQ.all (HB.all H19)) k0).1).elem hpvx hpu1) 0 _ rfl)) ?_
                        refine nS153 ?_
                        refine still_yes rfl ?_
                        refine still_test (ex_eql rfl rfl) (fun hp149 => ?_) (fun hp149 => ?_)
                        · skip
                          refine still_val (ex_pick_f rfl rfl) ?_
                          refine still_val (ex_assign rfl) ?_
                          refine still_nil ?_
                          refine nR153 ?_
                          refine run_nil (blk_normal ?_)
                          refine run_region ?_
                          refine ops_val (ex_move rfl) ?_
                          refine ops_val (ex_add rfl rfl (IntWalk.i64_in _ (by omega))) ?_
                          refine ops_val (ex_assign rfl) ?_
                          refine ops_nil ?_
                          refine nR153 ?_
                          refine run_nil (rnd_normal ?_)
                          exact ⟨y.votes.length - (r + 1), by omega, r + 1, _, true, rfl, (fn (fn (fn (fn (fn (fs (fn (fs (fn (fs (fs (fs (fs (fs (fs (fs (fn (fn (fn (fn (fn (fn (fn (fn (fn (fn (fn (fn (fn (fn (fn (fn (fn (fn (fn (fn (fn (fn (fn (fn (fn (fn (fn (fn (fn (fn (fn (fn (fn (fn (fn (fn (fn (fn (fn (fn (fn (fn (fn (fn (fn (fn (fn (fn (fn (fn (fn (fn (fn (fn (fn (fn (fn (fn (fn (fn (fn (fn (fn (fn (fn (fn (fn (fn (fn (fn (fn (fn (fn (fn (fn (fn (fn (fn (fn (fn (fn (fn (fn (fn (fn (fn (fn (fn (fn (fn (fn (fn (fn (fn (fn (fn (fn (fn (fn (fn (fn (fn (fn (fn (fn (fn (fn (fn (fn (fn (fn (fn (fn (fn (fn (fn (fn (fn (fn (fn (fn (fn (fn (fn (fn (fn (fn (fn (fn (fn (fn (fn (fn (fn (fn (fn (fn f0))))))))))))))))))))))))))))))))))))))))))))))))))))))))))))))))))))))))))))))))))))))))))))))))))))))))))))))))))))))))))))))))))))))))))))))))))))))))), by omega, by omega, fun _ => rfl, H19⟩
                        · skip
                          refine still_val (ex_pick_f rfl rfl) ?_
                          refine still_val (ex_assign rfl) ?_
                          refine still_nil ?_
                          refine nR153 ?_
                          refine run_nil (blk_normal ?_)
                          refine run_region ?_
                          refine ops_val (ex_move rfl) ?_
                          refine ops_val (ex_add rfl rfl (IntWalk.i64_in _ (by omega))) ?_
                          refine ops_val (ex_assign rfl) ?_
                          refine ops_nil ?_
                          refine nR153 ?_
                          refine run_nil (rnd_normal ?_)
                          exact ⟨y.votes.length - (r + 1), by omega, r + 1, _, false, rfl, (fn (fn (fn (fn (fn (fs (fn (fs (fn (fs (fs (fs (fs (fs (fs (fs (fn (fn (fn (fn (fn (fn (fn (fn (fn (fn (fn (fn (fn (fn (fn (fn (fn (fn (fn (fn (fn (fn (fn (fn (fn (fn (fn (fn (fn (fn (fn (fn (fn (fn (fn (fn (fn (fn (fn (fn (fn (fn (fn (fn (fn (fn (fn (fn (fn (fn (fn (fn (fn (fn (fn (fn (fn (fn (fn (fn (fn (fn (fn (fn (fn (fn (fn (fn (fn (fn (fn (fn (fn (fn (fn (fn (fn (fn (fn (fn (fn (fn (fn (fn (fn (fn (fn (fn (fn (fn (fn (fn (fn (fn (fn (fn (fn (fn (fn (fn (fn (fn (fn (fn (fn (fn (fn (fn (fn (fn (fn (fn (fn (fn (fn (fn (fn (fn (fn (fn (fn (fn (fn (fn (fn (fn (fn (fn (fn (fn (fn (fn (fn (fn (fn (fn (fn f0))))))))))))))))))))))))))))))))))))))))))))))))))))))))))))))))))))))))))))))))))))))))))))))))))))))))))))))))))))))))))))))))))))))))))))))))))))))))), by omega, by omega, fun hk => (show False from by
                            rcases Nat.lt_or_ge kz r with h1 | h1
                            · exact absurd (hc h1) (by decide)
                            · obtain rfl : kz = r := by omega
                              rw [hyu] at hkz
                              cases hkz
                              exact hp149 huys).elim, H19⟩
                      · skip
                        refine run_still mixed (by kernel_rfl) ?_
                        rintro w19 hw19
                        have H19 := Hp.drew H18; rw [← hw19] at H19
                        refine still_val (ex_move rfl) ?_
                        refine still_val (ex_move rfl) ?_
                        refine nS153 ?_
                        refine still_no rfl ?_
                        refine still_no rfl ?_
                        refine nS153 ?_
                        refine still_no rfl ?_
                        refine still_no rfl ?_
                        refine nS153 ?_
                        refine still_no rfl ?_
                        refine still_no rfl ?_
                        refine nS153 ?_
                        refine still_no rfl ?_
                        refine still_no rfl ?_
                        refine nS153 ?_
                        refine still_no rfl ?_
                        refine still_no rfl ?_
                        refine nS153 ?_
                        refine still_no rfl ?_
                        refine still_no rfl ?_
                        refine nS153 ?_
                        refine still_no rfl ?_
                        refine still_val (ex_pick_t rfl rfl) ?_
                        refine still_val (ex_assign rfl) ?_
                        refine still_nil ?_
                        refine nR153 ?_
                        refine run_nil (blk_normal ?_)
                        refine run_region ?_
                        refine ops_val (ex_move rfl) ?_
                        refine ops_val (ex_add rfl rfl (IntWalk.i64_in _ (by omega))) ?_
                        refine ops_val (ex_assign rfl) ?_
                        refine ops_nil ?_
                        refine nR153 ?_
                        refine run_nil (rnd_normal ?_)
                        exact ⟨y.votes.length - (r + 1), by omega, r + 1, _, true, rfl, (fn (fn (fn (fn (fn (fs (fn (fs (fn (fs (fs (fs (fs (fs (fs (fs (fn (fn (fn (fn (fn (fn (fn (fn (fn (fn (fn (fn (fn (fn (fn (fn (fn (fn (fn (fn (fn (fn (fn (fn (fn (fn (fn (fn (fn (fn (fn (fn (fn (fn (fn (fn (fn (fn (fn (fn (fn (fn (fn (fn (fn (fn (fn (fn (fn (fn (fn (fn (fn (fn (fn (fn (fn (fn (fn (fn (fn (fn (fn (fn (fn (fn (fn (fn (fn (fn (fn (fn (fn (fn (fn (fn (fn (fn (fn (fn (fn (fn (fn (fn (fn (fn (fn (fn (fn (fn (fn (fn (fn (fn (fn (fn (fn (fn (fn (fn (fn (fn (fn (fn (fn (fn (fn (fn (fn (fn (fn (fn (fn (fn (fn (fn (fn (fn (fn (fn (fn (fn (fn (fn (fn (fn (fn (fn (fn (fn (fn (fn (fn (fn (fn (fn (fn f0))))))))))))))))))))))))))))))))))))))))))))))))))))))))))))))))))))))))))))))))))))))))))))))))))))))))))))))))))))))))))))))))))))))))))))))))))))))))), by omega, by omega, fun _ => rfl, H19⟩
                    · obtain rfl : c = true := hc (by omega)
                      refine ops_nil ?_
                      refine nR153 ?_
                      refine run_cond_false rfl ?_
                      refine run_exit ?_
                      refine rnd_exit ?_
                      refine blk_exit ?_
                      refine run_seq ?_
                      refine run_region ?_
                      refine ops_val (ex_move rfl) ?_
                      refine ops_val (ex_not rfl) ?_
                      refine ops_nil ?_
                      refine nR153 ?_
                      refine run_cond_false rfl ?_
                      refine run_skip ?_
                      refine run_nil (blk_normal ?_)
                      refine run_region ?_
                      refine ops_val (ex_move rfl) ?_
                      refine ops_val (ex_add rfl rfl (IntWalk.i64_in _ (by omega))) ?_
                      refine ops_val (ex_assign rfl) ?_
                      refine ops_nil ?_
                      refine nR153 ?_
                      refine run_nil (rnd_normal ?_)
                      exact ⟨x.votes.length - (q + 1), by omega, q + 1, _, rfl, (fn (fn (fn (fn (fn (fs (fn (fs (fn (fs (fs (fs (fs (fs (fn (fn (fn (fn (fn (fn (fn (fn (fn (fn (fn (fn (fn (fn (fn (fn (fn (fn (fn (fn (fn (fn (fn (fn (fn (fn (fn (fn (fn (fn (fn (fn (fn (fn (fn (fn (fn (fn (fn (fn (fn (fn (fn (fn (fn (fn (fn (fn (fn (fn (fn (fn (fn (fn (fn (fn (fn (fn (fn (fn (fn (fn (fn (fn (fn (fn (fn (fn (fn (fn (fn (fn (fn (fn (fn (fn (fn (fn (fn (fn (fn (fn (fn (fn (fn (fn (fn (fn (fn (fn (fn (fn (fn (fn (fn (fn (fn (fn (fn (fn (fn (fn (fn (fn (fn (fn (fn (fn (fn (fn (fn (fn (fn (fn (fn (fn (fn (fn (fn (fn (fn (fn (fn (fn (fn (fn (fn (fn (fn (fn (fn (fn (fn (fn (fn (fn (fn (fn (fn f0))))))))))))))))))))))))))))))))))))))))))))))))))))))))))))))))))))))))))))))))))))))))))))))))))))))))))))))))))))))))))))))))))))))))))))))))))))))))), by omega, by omega, H18⟩
              · skip
                refine ops_nil ?_
                refine nR153 ?_
                refine run_cond_false rfl ?_
                refine run_exit ?_
                refine rnd_exit ?_
                refine blk_exit ?_
                refine run_nil (blk_normal ?_)
                refine run_region ?_
                refine ops_val (ex_move rfl) ?_
                refine ops_val (ex_add rfl rfl (IntWalk.i64_in _ (by omega))) ?_
                refine ops_val (ex_assign rfl) ?_
                refine ops_nil ?_
                refine nR153 ?_
                refine run_nil (rnd_normal ?_)
                exact ⟨8 - (i + 1), by omega, i + 1, _, rfl, (fn (fn (fn (fn (fn (fs (fn (fs (fn (fs (fn (fn (fn (fn (fn (fn (fn (fn (fn (fn (fn (fn (fn (fn (fn (fn (fn (fn (fn (fn (fn (fn (fn (fn (fn (fn (fn (fn (fn (fn (fn (fn (fn (fn (fn (fn (fn (fn (fn (fn (fn (fn (fn (fn (fn (fn (fn (fn (fn (fn (fn (fn (fn (fn (fn (fn (fn (fn (fn (fn (fn (fn (fn (fn (fn (fn (fn (fn (fn (fn (fn (fn (fn (fn (fn (fn (fn (fn (fn (fn (fn (fn (fn (fn (fn (fn (fn (fn (fn (fn (fn (fn (fn (fn (fn (fn (fn (fn (fn (fn (fn (fn (fn (fn (fn (fn (fn (fn (fn (fn (fn (fn (fn (fn (fn (fn (fn (fn (fn (fn (fn (fn (fn (fn (fn (fn (fn (fn (fn (fn (fn (fn (fn (fn (fn (fn (fn (fn (fn (fn (fn (fn (fn f0))))))))))))))))))))))))))))))))))))))))))))))))))))))))))))))))))))))))))))))))))))))))))))))))))))))))))))))))))))))))))))))))))))))))))))))))))))))))), by omega, by omega, H17.pick [0, 1] (by decide)⟩
      · skip
        refine ops_nil ?_
        refine nR153 ?_
        refine run_cond_false rfl ?_
        refine run_exit ?_
        refine rnd_exit ?_
        refine blk_exit ?_
        refine run_seq ?_
        refine run_region ?_
        refine ops_val (ex_assign rfl) ?_
        refine ops_nil ?_
        refine nR153 ?_
        refine run_ret ?_
        refine fin_ret1 rfl rfl ?_
        exact ⟨rfl, (HR.all (HQ.all (HB.all H11))).noRows⟩
end Go.Proofs.Ytbninklfoogmdaa
