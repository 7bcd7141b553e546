/- Walks of layer 2, printed by wip/gen/codec.py. -/
import Derived.Test.YtoeobicpdeklaaaGreatNrm
import Derived.Test.YtoeobicpdeklaaaGreatCopy
import Derived.Test.YtoeobicpdeklaaaGreatWireT
namespace Go.Proofs.YtoeobicpdeklaaaGreat
open Go Go.RowKit
set_option linter.unusedVariables false
attribute [local irreducible] Still Ops Does Cd
set_option maxRecDepth 100000 in
set_option maxHeartbeats 4000000 in
theorem copyAccount_any (x : thaccount.X) (cells : List Value) (w0 : World) (hM : thaccount.M w0 (fun _ => True) x cells) (hb1 : x.1.2.length * 32 ≤ 140737488351232) :
    Does Tryz.prog 44 #[.agg cells.toArray] w0 (fun r w' => ∃ cells', r = .agg cells'.toArray ∧ thaccount.M w' (fun p => w0.heap.size ≤ p) x cells' ∧ Hp w0 w' [] []) := by
  refine does_of Tryz.func44 Tryz.ntmps44 rfl ?_
  change Run _ _ _ _ [.agg cells.toArray, undef, undef, undef, undef, undef, undef, undef] _
  have H := Hp.refl w0
  obtain ⟨r2, s2, rfl, hq2, hs2⟩ := Th.split hM
  obtain ⟨s0, s1, rfl, hs0, hs1⟩ := Th.split hq2
  obtain ⟨a0, a1, a2, a3, a4, rfl⟩ : ∃ a0 a1 a2 a3 a4, s0 = [a0, a1, a2, a3, a4] := by
    have hl := (Th.flat _).len hs0
    match s0, hl with
    | [a0, a1, a2, a3, a4], _ => exact ⟨_, _, _, _, _, rfl⟩
  obtain ⟨B1, k1, cl1, rfl, hz1, hrd1, _, _, hel1⟩ := hs1
  obtain ⟨a6, a7, a8, a9, rfl⟩ : ∃ a6 a7 a8 a9, s2 = [a6, a7, a8, a9] := by
    have hl := (Th.flat _).len hs2
    match s2, hl with
    | [a6, a7, a8, a9], _ => exact ⟨_, _, _, _, rfl⟩
  have ho0 := Th.ones _ hs0
  have ho2 := Th.ones _ hs2
  refine run_seq ?_
  refine run_region ?_
  refine ops_box rfl rfl H ?_
  intro w1 g1 H1 hg1
  refine ops_alloc ty94 H1 ?_
  intro w2 g2 H2 hg2
  refine ops_nil ?_
  change Run _ _ _ _ [_, _, _, _, _, _, _, _] _
  refine run_seq ?_
  refine run_region ?_
  refine ops_val (ex_fieldAddr fl94_4 rfl) ?_
  refine ops_val (ex_load ty90 rfl (H2.cell (i := 0) rfl rfl)) ?_
  have HN0 := H2.nil 141
  have hlb1 := hz1.1
  refine ops_append Tryz.underlying90 ty141 (by decide) HN0 2 (g := none) (xs := []) (sp := []) rfl rfl rfl (by decide) (by decide) (fun _ => rfl) rfl (hrd1.to0 HN0) (many_ones hrd1.len hel1) (by omega) (by have := hb1; omega) (by decide) ?_
  intro w3 gA1 cA1 sA1 H3 hcA1 hmA1 hgA1
  refine ops_val (ex_fieldAddr fl94_4 rfl) ?_
  change Ops _ _ _ _ _ _ [_, _, _, _, _, _, _, _] _
  refine ops_store1 ty90 H3 0 rfl rfl rfl rfl (by simp only [List.length_append, List.length_cons, List.length_nil, List.length_set]; omega) rfl ?_
  intro w4 H4
  refine ops_nil ?_
  change Run _ _ _ _ [_, _, _, _, _, _, _, _] _
  refine run_seq ?_
  refine run_region ?_
  refine ops_val (ex_loadN ty94 rfl (vs := [a0, a1, a2, a3, a4, (Value.slice (hd gA1) (0 + x.1.2.length) cA1), a6, a7, a8, a9]) rfl (H4.cells (i := 0) rfl)) ?_
  have hone : [a0, a1, a2, a3, a4, (Value.slice (hd gA1) (0 + x.1.2.length) cA1), a6, a7, a8, a9].all (·.oneCell') = true := by
    show ([a0, a1, a2, a3, a4] ++ [(Value.slice (hd gA1) (0 + x.1.2.length) cA1)] ++ [a6, a7, a8, a9]).all (·.oneCell') = true
    rw [List.all_append, List.all_append, ho0, ho2]
    rfl
  refine ops_store ty94 H4 1 rfl rfl rfl rfl rfl (Nat.le_refl 10) hone ?_
  intro w5 H5
  refine ops_nil ?_
  change Run _ _ _ _ [_, _, _, _, _, _, _, _] _
  refine run_ret ?_
  refine fin_cell rfl ty94 rfl rfl (H5.cells (i := 1) rfl) ?_
  have hze1 : 0 + x.1.2.length = x.1.2.length := Nat.zero_add _
  refine ⟨[a0, a1, a2, a3, a4, (Value.slice (hd gA1) (0 + x.1.2.length) cA1), a6, a7, a8, a9], rfl, ?_, H5.pick [] (by decide)⟩
  rw [hze1]
  exact (pair_app (pair_app (flat_any (by simp) (Th.to _ hs0 H5 (fun _ _ => by simp))) (many_copy_new (A := thholder) (tw' := false) (by decide) hz1.1 hrd1.len (fun i hi => flat_any (by simp) (Th.to _ (hel1 i hi) H5 (fun _ _ => by simp))) H5 (i := 2) (g := gA1) (T := 141) (sp := sA1) rfl)) (flat_any (by simp) (Th.to _ hs2 H5 (fun _ _ => by simp))))
set_option maxRecDepth 100000 in
set_option maxHeartbeats 4000000 in
theorem copyAccounts_any (B : Option Addr) (k : Nat) (xs : List thaccount.X) (w0 : World) (hM : (Th.many thaccount false).M w0 (fun _ => True) xs [.slice B xs.length k]) (hbx : xs.length * 104 ≤ 140737488351232) (hb : ∀ i (h : i < xs.length), xs[i].1.2.length * 32 ≤ 140737488351232) :
    Does Tryz.prog 15 #[.slice B xs.length k] w0 (fun r w' => ∃ B2 k2, r = .slice B2 xs.length k2 ∧ (Th.many thaccount false).M w' (fun p => w0.heap.size ≤ p) xs [.slice B2 xs.length k2] ∧ Hp w0 w' [] []) := by
  refine does_of Tryz.func15 Tryz.ntmps15 rfl ?_
  refine nR20 ?_
  have H := Hp.refl w0
  obtain ⟨D1, kk1, cl, heq, hz, hrd, _, _, hel⟩ := id hM
  simp only [List.cons.injEq, Value.slice.injEq, and_true, true_and] at heq
  obtain ⟨rfl, rfl⟩ := heq
  have hlm := hz.1
  refine run_seq ?_
  refine run_region ?_
  refine ops_val (ex_assign rfl) ?_
  refine ops_nil ?_
  refine nR20 ?_
  refine run_seq ?_
  refine run_region ?_
  refine ops_val (ex_assign rfl) ?_
  refine ops_nil ?_
  refine nR20 ?_
  refine run_seq ?_
  refine run_seq ?_
  refine run_region ?_
  refine ops_val (ex_assign rfl) ?_
  refine ops_nil ?_
  refine nR20 ?_
  refine run_block ?_
  refine run_loop (fun n l w => ∃ (q : Nat) (y : Int) (g : Option Nat) (cap : Nat) (uc sp : List Value), xs.length - q = n ∧ Fits [some (.slice B xs.length k), none, none, some (.slice (hd g) q cap), some (.int .i64 y), none, none, none, none, none, none, none, none, none, none, none, none, none, none, none] l ∧ y = q ∧ q ≤ xs.length ∧ uc.length = q * 10 ∧ cap * 10 ≤ (uc ++ sp).length ∧ q ≤ cap ∧ (g = none → cap = 0) ∧ Hp w0 w [] [(g, 94, uc ++ sp)] ∧ ∀ i (h : i < xs.length), i < q → thaccount.M w (fun p => w0.heap.size ≤ p ∧ p ∉ bl [(g, 94, uc ++ sp)]) xs[i] ((uc.drop (i * 10)).take 10)) (xs.length) ?_ ?_
  · exact ⟨0, _, none, 0, [], [], rfl, (fs (fn (fn (fs (fs (fn (fn (fn (fn (fn (fn (fn (fn (fn (fn (fn (fn (fn (fn (fn f0)))))))))))))))))))), rfl, Nat.zero_le _, by simp, by simp, Nat.le_refl _, fun _ => rfl, H.nil 94, fun i h hi => by omega⟩
  · rintro n l w1 ⟨q, y, g, cap, uc, sp, rfl, hfit, rfl, hq, hul, hcl, hqc, hgl, H1, hes⟩
    obtain ⟨j, rfl⟩ := hfit.open
    refine nR20 ?_
    clear hfit
    refine run_seq ?_
    refine run_seq ?_
    refine run_region ?_
    refine ops_val (ex_move rfl) ?_
    refine ops_val (ex_move rfl) ?_
    refine ops_val (ex_len_slice Tryz.underlying22 rfl) ?_
    refine ops_test (ex_lss rfl rfl) (fun hp8 => ?_) (fun hp8 => ?_)
    · have hql : q < xs.length := by omega
      obtain ⟨p1, hp1⟩ := hrd.some_ (by omega)
      subst hp1
      have hln : ((cl.drop (q * 10)).take 10).length = 10 := elem_len hrd hql
      have HB := H1
      replace H1 := HB.here
      refine ops_nil ?_
      refine nR20 ?_
      refine run_cond_true rfl ?_
      refine run_skip ?_
      refine run_seq ?_
      refine run_block ?_
      refine run_region ?_
      refine ops_val (ex_move rfl) ?_
      refine ops_val (ex_move rfl) ?_
      refine ops_val (ex_move rfl) ?_
      refine ops_val (ex_idx Tryz.underlying22 ty94 rfl rfl rfl hql rfl) ?_
      refine nO20 ?_
      refine ops_val (ex_loadN ty94 rfl (vs := ((cl.drop (q * 10)).take 10)) hln ((elem_cl (S := []) hrd hql (by simp)).to (HB.all H1)).cell) ?_
      refine ops_call (ex_call gf44 rfl) (copyAccount_any xs[q] ((cl.drop (q * 10)).take 10) _ (thaccount.mono (thaccount.to (hel q hql) (HB.all H1) (fun _ _ => by simp)) (fun _ _ => trivial)) (hb q hql)) ?_
      rintro _ w2 ⟨us, rfl, hMn, Hd⟩
      have hus : us.length = 10 := thaccount.len hMn
      have huo := thaccount.ones hMn
      have hw0 := (HB.all H1).size
      replace hMn : thaccount.M w2 (fun p => w0.heap.size ≤ p ∧ p ∉ bl [(g, 94, uc ++ sp)]) xs[q] us := thaccount.mono hMn (fun p hp => ⟨by omega, fun hq => by have := bl_lt H1 hq; omega⟩)
      replace hes : ∀ i (h : i < xs.length), i < q → thaccount.M w2 (fun p => w0.heap.size ≤ p ∧ p ∉ bl [(g, 94, uc ++ sp)]) xs[i] ((uc.drop (i * 10)).take 10) := fun i h hi => thaccount.mono (thaccount.to (hes i h hi) (H1.here.call0 Hd) (fun _ h => h.2)) (fun _ h => ⟨h.1.1, h.2⟩)
      have HA : Hp w0 w2 [] [(g, 94, uc ++ sp)] := (HB.all (H1.call0 Hd)).pick [0] (by decide)
      have H2 := HA.here
      refine ops_build1 Tryz.underlying22 ty94 H2 rfl rfl hus (by decide) ?_
      intro w3 gn H3 hgn
      refine ops_append Tryz.underlying22 ty94 (by decide) H3 0 (g := g) (xs := uc) (sp := sp) rfl rfl hul hcl hqc hgl rfl (H3.rd (i := 1) (o := some gn) (xs := us) (sp := []) (by rw [List.append_nil]; rfl) (by rw [hus]) (by decide)) huo (by omega) (by omega) (by decide) ?_
      intro w4 g2 cap2 sp2 H4 hcl2 hqc2 hgl2
      refine nO20 ?_
      refine ops_val (ex_assign rfl) ?_
      refine ops_nil ?_
      refine nR20 ?_
      refine run_nil (blk_normal ?_)
      refine run_region ?_
      refine ops_val (ex_move rfl) ?_
      refine ops_val (ex_add rfl rfl (IntWalk.i64_in _ (by omega))) ?_
      refine ops_val (ex_assign rfl) ?_
      refine ops_nil ?_
      refine nR20 ?_
      refine run_nil (rnd_normal ?_)
      have HR := (show ∀ (wa wb : World) (SS : List Nat), Hp wa wb SS _ → Hp wa wb SS [(g2, 94, (uc ++ us) ++ sp2), (some gn, 94, us)] from fun _ _ _ h => h) _ _ _ H4
      refine ⟨xs.length - (q + 1), by omega, q + 1, _, g2, cap2, uc ++ us, sp2, rfl, (fs (fn (fn (fs (fs (fn (fn (fn (fn (fn (fn (fn (fn (fn (fn (fn (fn (fn (fn (fn f0)))))))))))))))))))), rfl, by omega, by rw [List.length_append, hul, hus]; omega, hcl2, hqc2, hgl2, (HA.all HR).pick [0] (by decide), fun i h hi => ?_⟩
      by_cases hiq : i < q
      · rw [chunk_old hul hiq]
        exact thaccount.mono (thaccount.to (hes i h hiq) HR (fun _ h => h.2)) (fun _ h => ⟨h.1.1, fun hq => h.2 (bl_first hq)⟩)
      · obtain rfl : i = q := by omega
        rw [chunk_new hul hus]
        exact thaccount.mono (thaccount.to hMn HR (fun _ h => h.2)) (fun _ h => ⟨h.1.1, fun hq => h.2 (bl_first hq)⟩)
    · obtain rfl : q = xs.length := by omega
      refine ops_nil ?_
      refine nR20 ?_
      refine run_cond_false rfl ?_
      refine run_exit ?_
      refine rnd_exit ?_
      refine blk_exit ?_
      refine run_seq ?_
      refine run_region ?_
      refine ops_val (ex_move rfl) ?_
      refine ops_val (ex_assign rfl) ?_
      refine ops_nil ?_
      refine nR20 ?_
      refine run_ret ?_
      refine fin_ret1 rfl rfl ?_
      exact ⟨hd g, cap, rfl, ⟨hd g, cap, uc, rfl, ⟨hz.1, fun _ => by decide⟩, H1.rd (i := 0) (o := g) (xs := uc) (sp := sp) rfl hul (by decide), fun _ p hp => by
        cases g with
        | none => cases hp
        | some k =>
          cases hp
          rcases H1.place (i := 0) rfl with h | h
          · cases h
          · exact h, (fun _ h => by cases h), fun i hi => thaccount.mono (hes i hi hi) (fun _ h => h.1)⟩, H1.pick [] (by decide)⟩
end Go.Proofs.YtoeobicpdeklaaaGreat
