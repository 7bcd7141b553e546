/- Walks of layer 2, printed by wip/gen/codec.py. -/
import Derived.Test.YtbninklfoogmdaaNrm
import Derived.Test.YtbninklfoogmdaaVaB
namespace Go.Proofs.Ytbninklfoogmdaa
open Go Go.RowKit
set_option linter.unusedVariables false
attribute [local irreducible] Still Ops Does Cd
set_option maxRecDepth 100000 in
set_option maxHeartbeats 16000000 in
theorem insertV (g : Option Nat) (cap i gv n : Nat) (ps : List (List Value)) (hn : ps.length = n) (vs sp : List Value) (w0 : World) (H0 : Hp w0 w0 (bl [((g, 41, ps.flatten ++ sp) : Ent)]) [((g, 41, ps.flatten ++ sp) : Ent)]) (hp : Pl 4 ps) (ho : ∀ p ∈ ps, p.all (·.oneCell') = true) (hl : ps.length ≤ cap) (hcz : cap * 4 ≤ (ps.flatten ++ sp).length) (hg0 : g = none → cap = 0) (hi : i ≤ ps.length) (hv : w0.heap[gv]? = some (.cells vs.toArray 41 (0, 0))) (hvl : vs.length = 4) (hvo : vs.all (·.oneCell') = true) (hgv : gv ∉ bl [((g, 41, ps.flatten ++ sp) : Ent)]) (hb : (ps.length + 1) * 48 ≤ 211106232532992) :
    Does Try.prog 41 #[.slice (hd g) n cap, .int .i64 (i : Int), .slice (some ⟨gv, 0, none⟩) 1 1] w0 (fun r w' => ∃ g' cap' sp', r = .slice (hd g') (ps.length + 1) cap' ∧ ps.length + 1 ≤ cap' ∧ cap' * 4 ≤ ((ps.take i ++ vs :: ps.drop i).flatten ++ sp').length ∧ (g' = none → cap' = 0) ∧ Hp w0 w' (bl [((g, 41, ps.flatten ++ sp) : Ent)]) [((g', 41, (ps.take i ++ vs :: ps.drop i).flatten ++ sp') : Ent)]) := by
  refine does_of Try.func41 Try.ntmps41 rfl ?_
  refine nR95 ?_
  subst hn
  have H := H0
  have hrd := H.rd (i := 0) rfl hp.len (by decide)
  have hones := ones_flatten ho
  refine run_seq ?_
  refine run_region ?_
  refine ops_val (ex_assign rfl) ?_
  refine ops_nil ?_
  refine nR95 ?_
  refine run_seq ?_
  refine run_region ?_
  refine ops_val (ex_move rfl) ?_
  refine ops_val (ex_move rfl) ?_
  refine ops_val (ex_cutLo Try.underlying35 ty41 rfl rfl ⟨by omega, by omega⟩) ?_
  refine ops_nil ?_
  refine nR95 ?_
  refine run_seq ?_
  refine run_region ?_
  refine ops_val (ex_move rfl) ?_
  refine ops_val (ex_len_slice Try.underlying35 rfl) ?_
  refine ops_val (ex_assign rfl) ?_
  refine ops_nil ?_
  refine nR95 ?_
  refine run_seq ?_
  refine run_seq ?_
  refine run_region ?_
  refine ops_val (ex_move rfl) ?_
  refine ops_false (ex_eql rfl rfl) (by decide) ?_
  refine ops_nil ?_
  refine nR95 ?_
  refine run_cond_false rfl ?_
  refine run_skip ?_
  refine run_seq ?_
  refine run_region ?_
  refine ops_val (ex_move rfl) ?_
  refine ops_val (ex_len_slice Try.underlying35 rfl) ?_
  refine ops_val (ex_assign rfl) ?_
  refine ops_nil ?_
  refine nR95 ?_
  refine run_seq ?_
  refine run_seq ?_
  refine run_region ?_
  refine ops_val (ex_move rfl) ?_
  refine ops_val (ex_move rfl) ?_
  refine ops_test (ex_eql rfl rfl) (fun hp22 => ?_) (fun hp22 => ?_)
  · obtain rfl : i = ps.length := by omega
    refine ops_nil ?_
    refine nR95 ?_
    refine run_cond_true rfl ?_
    refine run_seq ?_
    refine run_region ?_
    refine ops_val (ex_move rfl) ?_
    refine ops_val (ex_move rfl) ?_
    have hvr := (⟨by rw [hvl], fun a ha jx u hu => by cases ha; rw [addn, Nat.zero_add]; exact (by simp [World.cell?, H.keep hv hgv, hu]), fun h => by cases h⟩ : Rd w0 (some ⟨gv, 0, none⟩) 1 4 vs)
    refine ops_append Try.underlying35 ty41 (by decide) H 0 (g := g) (xs := ps.flatten) (sp := sp) rfl rfl hp.len hcz hl hg0 rfl hvr hvo (by omega) (by omega) (by decide) ?_
    intro w1 g2 cap2 sp2 H1 hcz2 hl2 hg2
    refine ops_val (ex_assign rfl) ?_
    refine ops_nil ?_
    refine nR95 ?_
    refine run_ret ?_
    refine fin_ret1 rfl rfl ?_
    have e1 : (ps.take ps.length ++ vs :: ps.drop ps.length).flatten = ps.flatten ++ vs := by rw [List.take_length, List.drop_length]; simp
    refine ⟨g2, cap2, sp2, rfl, hl2, by rw [e1]; exact hcz2, hg2, ?_⟩
    rw [e1]
    exact H1
  · have hil : i < ps.length := by omega
    obtain ⟨gx, rfl⟩ := own_some H (i := 0) rfl (by rw [List.length_append, hp.len]; have : 0 < ps.length * 4 := Nat.mul_pos (by omega) (by decide); omega)
    refine ops_nil ?_
    refine nR95 ?_
    refine run_cond_false rfl ?_
    refine run_skip ?_
    refine run_seq ?_
    refine run_seq ?_
    refine run_region ?_
    refine ops_val (ex_move rfl) ?_
    refine ops_val (ex_move rfl) ?_
    refine ops_val (ex_add rfl rfl (IntWalk.i64_in _ (by omega))) ?_
    refine ops_val (ex_move rfl) ?_
    refine nO95 ?_
    refine ops_val (ex_cap_slice Try.underlying35 rfl) ?_
    refine ops_test (ex_gtr rfl rfl) (fun hp31 => ?_) (fun hp31 => ?_)
    · skip
      refine ops_nil ?_
      refine nR95 ?_
      refine run_cond_true rfl ?_
      refine run_seq ?_
      refine run_region ?_
      refine ops_val (ex_move rfl) ?_
      refine ops_val (ex_move rfl) ?_
      refine ops_val (ex_hi Try.underlying35 ty41 rfl rfl rfl (by omega)) ?_
      refine ops_val (ex_move rfl) ?_
      refine nO95 ?_
      refine ops_val (ex_move rfl) ?_
      refine ops_val (ex_add rfl rfl (IntWalk.i64_in _ (by omega))) ?_
      refine ops_val (ex_move rfl) ?_
      refine ops_val (ex_sub rfl rfl ((IntWalk.i64_in _ (by omega)).trans (show ((ps.length : Int) + 1 - (i : Int)) = ((ps.length + 1 - i : Nat) : Int) by omega))) ?_
      refine nO95 ?_
      refine ops_append0 Try.underlying35 Try.underlying3 ty41 (by decide) H rfl (hrd.headN (by omega) (fun h => by cases h)) rfl (by omega) (by omega) (by omega) (by omega) (by decide) ?_
      intro w1 g2 cap2 sp2 H1 hcz2 hl2
      refine ops_val (ex_assign rfl) ?_
      refine ops_nil ?_
      refine nR95 ?_
      refine run_seq ?_
      refine run_region ?_
      refine ops_val (ex_move rfl) ?_
      refine ops_val (ex_move rfl) ?_
      have hie : i + (ps.length + 1 - i) = ps.length + 1 := by omega
      have hrow2 : (ps.flatten.take (i * 4) ++ initL [.int .i64 0, .int .i64 0, .int .i64 0, .slice none 0 0] (ps.length + 1 - i)).length = (ps.length + 1) * 4 := by
        rw [List.length_append, List.length_take, hp.len, initL_length, Nat.min_eq_left (Nat.mul_le_mul_right _ (by omega))]
        show i * 4 + (ps.length + 1 - i) * 4 = _
        rw [← Nat.add_mul, hie]
      have hlv : (i + 1) * 4 ≤ (ps.length + 1) * 4 := Nat.mul_le_mul_right _ (by omega)
      have hvr := (⟨by rw [hvl], fun a ha jx u hu => by cases ha; rw [addn, Nat.zero_add]; exact (by simp [World.cell?, H1.keep hv hgv, hu]), fun h => by cases h⟩ : Rd w1 (some ⟨gv, 0, none⟩) 1 4 vs)
      refine ops_val (ex_lo Try.underlying35 ty41 rfl rfl rfl (by omega) (by omega)) ?_
      refine ops_val (ex_move rfl) ?_
      refine nO95 ?_
      refine ops_copyN Try.underlying35 ty41 H1 1 (o := 0 + i * 4) (vs := vs) (by first | rfl | (rw [← addn]; rfl)) rfl rfl (by rw [hvl]; show 4 = Nat.min 1 (i + (ps.length + 1 - i) - i) * 4; rw [nminl]; omega) (fun jx u hu => hvr.cells _ rfl jx u hu) (by rw [List.length_append, hrow2, hvl]; omega) hvo ?_
      intro w2 H2
      refine ops_nil ?_
      refine nR95 ?_
      refine run_seq ?_
      refine run_mixZ 8 [(true, 0), (true, 1), (true, 2), (true, 3), (true, 4), (true, 5), (true, 6), (true, 7), (false, 8)] H2 [0, 1] mixed (by decide) (by kernel_rfl) ?_
      rintro w3 hw3
      have H3 := Hp.drew H2; rw [← hw3] at H3
      refine mixz_p rfl ?_
      refine mix1_val (fun wz hz => ex_move rfl) ?_
      refine mixz_p rfl ?_
      refine mix1_val (fun wz hz => ex_move rfl) ?_
      refine mixz_p rfl ?_
      refine mix1_val (fun wz hz => ex_move rfl) ?_
      refine mixz_p rfl ?_
      refine mix1_val (fun wz hz => ex_add rfl rfl (IntWalk.i64_in _ (by omega))) ?_
      refine nZ95 ?_
      refine mixz_p rfl ?_
      refine mix1_val (fun wz hz => ex_lo Try.underlying35 ty41 rfl rfl (i := i + 1) (by omega) (by omega) (by omega)) ?_
      refine mixz_p rfl ?_
      refine mix1_val (fun wz hz => ex_move rfl) ?_
      refine mixz_p rfl ?_
      refine mix1_val (fun wz hz => ex_move rfl) ?_
      refine mixz_p rfl ?_
      refine mix1_val (fun wz hz => ex_lo Try.underlying35 ty41 rfl rfl rfl (by omega) (by omega)) ?_
      refine nZ95 ?_
      refine mixz_o rfl ?_
      have hdl : (ps.flatten.drop (i * 4)).length = (ps.length - i) * 4 := by rw [List.length_drop, hp.len, ← Nat.sub_mul]
      refine ops_copyN Try.underlying35 ty41 H3 1 (o := 0 + (i + 1) * 4) (vs := ps.flatten.drop (i * 4)) (by first | rfl | (rw [← addn]; rfl)) rfl rfl (by rw [hdl]; show _ = Nat.min (ps.length - i) (i + (ps.length + 1 - i) - (i + 1)) * 4; rw [nminl]; omega) (fun jx u hu => by
        rw [add_add, addn, Nat.zero_add]
        exact H3.cell (i := 0) rfl (by rw [List.getElem?_append_left (by have := lt_of_get hu; rw [List.length_drop] at this; omega)]; rwa [List.getElem?_drop] at hu)) (by rw [putAt_len (by rw [List.length_append, hrow2, hvl]; omega), List.length_append, hrow2, hdl, Nat.zero_add, ← Nat.add_mul, show i + 1 + (ps.length - i) = ps.length + 1 by omega]; omega) (by rw [List.all_eq_true] at hones ⊢; exact fun x hx => hones x (List.mem_of_mem_drop hx)) ?_
      intro w4 H4
      refine ops_nil ?_
      refine ⟨fun hne => absurd rfl hne, ?_⟩
      refine nZ95 ?_
      refine mixz_nil ?_
      refine nR95 ?_
      refine run_seq ?_
      refine run_region ?_
      refine ops_val (ex_move rfl) ?_
      refine ops_val (ex_assign rfl) ?_
      refine ops_nil ?_
      refine nR95 ?_
      refine run_ret ?_
      refine fin_ret1 rfl rfl ?_
      have HZ := H4.pick [1] (by decide)
      change Hp _ _ _ [((some g2, 41, putAt (putAt _ (0 + i * 4) _) (0 + (i + 1) * 4) _) : Ent)] at HZ
      rw [Nat.zero_add, Nat.zero_add, ins_new (sp := sp2) hp rfl (by omega) hvl (by rw [initL_length]; rfl) rfl] at HZ
      refine ⟨some g2, cap2, sp2, by rw [hie], by omega, ?_, (fun h => by cases h), HZ⟩
      rw [List.length_append] at hcz2 ⊢
      rw [hrow2] at hcz2
      have hp2 : Pl 4 (ps.take i ++ vs :: ps.drop i) := (hp.sub fun x hx => List.mem_of_mem_take hx).app fun x hx => by
        rcases List.mem_cons.1 hx with rfl | hx
        · exact hvl
        · exact hp x (List.mem_of_mem_drop hx)
      rw [hp2.len]
      have : (ps.take i ++ vs :: ps.drop i).length = ps.length + 1 := by rw [List.length_append, List.length_cons, List.length_take, List.length_drop]; omega
      rw [this]; exact hcz2
    · skip
      refine ops_nil ?_
      refine nR95 ?_
      refine run_cond_false rfl ?_
      refine run_skip ?_
      refine run_seq ?_
      refine run_region ?_
      refine ops_val (ex_move rfl) ?_
      refine ops_val (ex_move rfl) ?_
      refine ops_val (ex_move rfl) ?_
      refine ops_val (ex_add rfl rfl (IntWalk.i64_in _ (by omega))) ?_
      refine nO95 ?_
      have hspl : 4 ≤ sp.length := by
        rw [List.length_append, hp.len] at hcz
        have : (ps.length + 1) * 4 ≤ cap * 4 := Nat.mul_le_mul_right _ (by omega)
        omega
      refine ops_val (ex_hi Try.underlying35 ty41 rfl rfl (i := ps.length + 1) (by omega) (by omega)) ?_
      refine ops_val (ex_assign rfl) ?_
      refine ops_nil ?_
      refine nR95 ?_
      refine run_seq ?_
      refine run_seq ?_
      refine run_region ?_
      refine ops_val (ex_move rfl) ?_
      refine ops_val (ex_move rfl) ?_
      refine ops_val (ex_move rfl) ?_
      refine ops_val (ex_move rfl) ?_
      refine nO95 ?_
      refine ops_val (ex_add rfl rfl (IntWalk.i64_in _ (by omega))) ?_
      refine ops_val (ex_lo Try.underlying35 ty41 rfl rfl (i := i + 1) (by omega) (by omega) (by omega)) ?_
      have hgvh := H.keep hv hgv
      have hgxh := H.at (i := 0) rfl
      have hne : gv ≠ gx := fun h => hgv (by rw [h]; simp [bl])
      refine ops_extern (fn := (Try.prog.funcs[55]?).get!) (e := Extern.SlicesOverlaps.overlaps #[35, 35] #[4]) (v := .bool false) (by kernel_rfl) (by kernel_rfl) (by kernel_rfl) (by kernel_rfl) (by kernel_rfl) rfl (Lib.run_overlaps_apart w0 35 4 41 Try.underlying35 4 (fun w => run_sizeOf ty41) ⟨gv, 0, none⟩ _ 1 1 _ _ (by rw [addn]; exact hne) 41 41 4 _ (by simp [World.shape?, hgvh]; exact hvl) (by rw [addn]; simp only [World.shape?, hgxh]; rfl) (by simp only [List.size_toArray, List.length_append]; omega) (by simp [World.frozen?, hgvh]) (by simp [World.frozen?, hgvh])) ?_
      refine ops_val (ex_not rfl) ?_
      refine ops_nil ?_
      refine nR95 ?_
      refine run_cond_true rfl ?_
      refine run_seq ?_
      refine run_mixZ 8 [(true, 0), (true, 1), (true, 2), (true, 3), (true, 4), (true, 5), (true, 6), (true, 7), (false, 8)] H [0] mixed (by decide) (by kernel_rfl) ?_
      rintro w1 hw1
      have H1 := Hp.drew H; rw [← hw1] at H1
      refine mixz_p rfl ?_
      refine mix1_val (fun wz hz => ex_move rfl) ?_
      refine mixz_p rfl ?_
      refine mix1_val (fun wz hz => ex_move rfl) ?_
      refine mixz_p rfl ?_
      refine mix1_val (fun wz hz => ex_move rfl) ?_
      refine mixz_p rfl ?_
      refine mix1_val (fun wz hz => ex_add rfl rfl (IntWalk.i64_in _ (by omega))) ?_
      refine nZ95 ?_
      refine mixz_p rfl ?_
      refine mix1_val (fun wz hz => ex_lo Try.underlying35 ty41 rfl rfl (i := i + 1) (by omega) (by omega) (by omega)) ?_
      refine mixz_p rfl ?_
      refine mix1_val (fun wz hz => ex_move rfl) ?_
      refine mixz_p rfl ?_
      refine mix1_val (fun wz hz => ex_move rfl) ?_
      refine mixz_p rfl ?_
      refine mix1_val (fun wz hz => ex_lo Try.underlying35 ty41 rfl rfl rfl (by omega) (by omega)) ?_
      refine nZ95 ?_
      refine mixz_o rfl ?_
      have hdl : (ps.flatten.drop (i * 4)).length = (ps.length - i) * 4 := by rw [List.length_drop, hp.len, ← Nat.sub_mul]
      have hlv : (i + 1) * 4 + (ps.length - i) * 4 = (ps.length + 1) * 4 := by rw [← Nat.add_mul, show i + 1 + (ps.length - i) = ps.length + 1 by omega]
      have hlw : (ps.length + 1) * 4 = ps.length * 4 + 4 := by omega
      refine ops_copyN Try.underlying35 ty41 H1 0 (o := 0 + (i + 1) * 4) (vs := ps.flatten.drop (i * 4)) (by first | rfl | (rw [← addn]; rfl)) rfl rfl (by rw [hdl]; show _ = Nat.min (ps.length + 1 - i) (ps.length + 1 - (i + 1)) * 4; rw [show Nat.min (ps.length + 1 - i) (ps.length + 1 - (i + 1)) = ps.length - i from (by show min _ _ = _; omega)]) (fun jx u hu => by
        rw [add_add, addn, Nat.zero_add]
        exact H1.cell (i := 0) rfl (by rw [List.getElem?_append_left (by have := lt_of_get hu; rw [List.length_drop] at this; omega)]; rwa [List.getElem?_drop] at hu)) (by rw [List.length_append, hp.len, hdl]; omega) (by rw [List.all_eq_true] at hones ⊢; exact fun x hx => hones x (List.mem_of_mem_drop hx)) ?_
      intro w2 H2
      refine ops_nil ?_
      refine ⟨fun hne => absurd rfl hne, ?_⟩
      refine nZ95 ?_
      refine mixz_nil ?_
      refine nR95 ?_
      refine run_seq ?_
      refine run_region ?_
      refine ops_val (ex_move rfl) ?_
      refine ops_val (ex_move rfl) ?_
      refine ops_val (ex_lo Try.underlying35 ty41 rfl rfl rfl (by omega) (by omega)) ?_
      refine ops_val (ex_move rfl) ?_
      refine nO95 ?_
      have hvr := (⟨by rw [hvl], fun a ha jx u hu => by cases ha; rw [addn, Nat.zero_add]; exact (by simp [World.cell?, H2.keep hv hgv, hu]), fun h => by cases h⟩ : Rd w2 (some ⟨gv, 0, none⟩) 1 4 vs)
      refine ops_copyN Try.underlying35 ty41 H2 0 (o := 0 + i * 4) (vs := vs) (by first | rfl | (rw [← addn]; rfl)) rfl rfl (by rw [hvl]; show 4 = Nat.min 1 (ps.length + 1 - i) * 4; rw [nminl]; omega) (fun jx u hu => hvr.cells _ rfl jx u hu) (by rw [putAt_len (by rw [List.length_append, hp.len, hdl]; omega), List.length_append, hp.len, hvl]; have : i * 4 ≤ ps.length * 4 := Nat.mul_le_mul_right _ (by omega); omega) hvo ?_
      intro w3 H3
      refine ops_nil ?_
      refine nR95 ?_
      refine run_seq ?_
      refine run_region ?_
      refine ops_val (ex_move rfl) ?_
      refine ops_val (ex_assign rfl) ?_
      refine ops_nil ?_
      refine nR95 ?_
      refine run_ret ?_
      refine fin_ret1 rfl rfl ?_
      have HZ := H3
      change Hp _ _ _ [((some gx, 41, putAt (putAt _ (0 + (i + 1) * 4) _) (0 + i * 4) _) : Ent)] at HZ
      rw [Nat.zero_add, Nat.zero_add, ins_in hp rfl (by omega) hvl hspl] at HZ
      have hp2 : Pl 4 (ps.take i ++ vs :: ps.drop i) := (hp.sub fun x hx => List.mem_of_mem_take hx).app fun x hx => by
        rcases List.mem_cons.1 hx with rfl | hx
        · exact hvl
        · exact hp x (List.mem_of_mem_drop hx)
      have hl3 : (ps.take i ++ vs :: ps.drop i).length = ps.length + 1 := by rw [List.length_append, List.length_cons, List.length_take, List.length_drop]; omega
      refine ⟨some gx, cap, sp.drop 4, rfl, by omega, ?_, (fun h => by cases h), HZ⟩
      rw [List.length_append, hp.len] at hcz
      rw [List.length_append, hp2.len, hl3, List.length_drop]
      omega
set_option maxRecDepth 100000 in
set_option maxHeartbeats 16000000 in
theorem insertR (g : Option Nat) (cap i gv n : Nat) (ps : List (List Value)) (hn : ps.length = n) (vs sp : List Value) (w0 : World) (H0 : Hp w0 w0 (bl [((g, 46, ps.flatten ++ sp) : Ent)]) [((g, 46, ps.flatten ++ sp) : Ent)]) (hp : Pl 4 ps) (ho : ∀ p ∈ ps, p.all (·.oneCell') = true) (hl : ps.length ≤ cap) (hcz : cap * 4 ≤ (ps.flatten ++ sp).length) (hg0 : g = none → cap = 0) (hi : i ≤ ps.length) (hv : w0.heap[gv]? = some (.cells vs.toArray 46 (0, 0))) (hvl : vs.length = 4) (hvo : vs.all (·.oneCell') = true) (hgv : gv ∉ bl [((g, 46, ps.flatten ++ sp) : Ent)]) (hb : (ps.length + 1) * 40 ≤ 211106232532992) :
    Does Try.prog 29 #[.slice (hd g) n cap, .int .i64 (i : Int), .slice (some ⟨gv, 0, none⟩) 1 1] w0 (fun r w' => ∃ g' cap' sp', r = .slice (hd g') (ps.length + 1) cap' ∧ ps.length + 1 ≤ cap' ∧ cap' * 4 ≤ ((ps.take i ++ vs :: ps.drop i).flatten ++ sp').length ∧ (g' = none → cap' = 0) ∧ Hp w0 w' (bl [((g, 46, ps.flatten ++ sp) : Ent)]) [((g', 46, (ps.take i ++ vs :: ps.drop i).flatten ++ sp') : Ent)]) := by
  refine does_of Try.func29 Try.ntmps29 rfl ?_
  refine nR95 ?_
  subst hn
  have H := H0
  have hrd := H.rd (i := 0) rfl hp.len (by decide)
  have hones := ones_flatten ho
  refine run_seq ?_
  refine run_region ?_
  refine ops_val (ex_assign rfl) ?_
  refine ops_nil ?_
  refine nR95 ?_
  refine run_seq ?_
  refine run_region ?_
  refine ops_val (ex_move rfl) ?_
  refine ops_val (ex_move rfl) ?_
  refine ops_val (ex_cutLo Try.underlying25 ty46 rfl rfl ⟨by omega, by omega⟩) ?_
  refine ops_nil ?_
  refine nR95 ?_
  refine run_seq ?_
  refine run_region ?_
  refine ops_val (ex_move rfl) ?_
  refine ops_val (ex_len_slice Try.underlying25 rfl) ?_
  refine ops_val (ex_assign rfl) ?_
  refine ops_nil ?_
  refine nR95 ?_
  refine run_seq ?_
  refine run_seq ?_
  refine run_region ?_
  refine ops_val (ex_move rfl) ?_
  refine ops_false (ex_eql rfl rfl) (by decide) ?_
  refine ops_nil ?_
  refine nR95 ?_
  refine run_cond_false rfl ?_
  refine run_skip ?_
  refine run_seq ?_
  refine run_region ?_
  refine ops_val (ex_move rfl) ?_
  refine ops_val (ex_len_slice Try.underlying25 rfl) ?_
  refine ops_val (ex_assign rfl) ?_
  refine ops_nil ?_
  refine nR95 ?_
  refine run_seq ?_
  refine run_seq ?_
  refine run_region ?_
  refine ops_val (ex_move rfl) ?_
  refine ops_val (ex_move rfl) ?_
  refine ops_test (ex_eql rfl rfl) (fun hp22 => ?_) (fun hp22 => ?_)
  · obtain rfl : i = ps.length := by omega
    refine ops_nil ?_
    refine nR95 ?_
    refine run_cond_true rfl ?_
    refine run_seq ?_
    refine run_region ?_
    refine ops_val (ex_move rfl) ?_
    refine ops_val (ex_move rfl) ?_
    have hvr := (⟨by rw [hvl], fun a ha jx u hu => by cases ha; rw [addn, Nat.zero_add]; exact (by simp [World.cell?, H.keep hv hgv, hu]), fun h => by cases h⟩ : Rd w0 (some ⟨gv, 0, none⟩) 1 4 vs)
    refine ops_append Try.underlying25 ty46 (by decide) H 0 (g := g) (xs := ps.flatten) (sp := sp) rfl rfl hp.len hcz hl hg0 rfl hvr hvo (by omega) (by omega) (by decide) ?_
    intro w1 g2 cap2 sp2 H1 hcz2 hl2 hg2
    refine ops_val (ex_assign rfl) ?_
    refine ops_nil ?_
    refine nR95 ?_
    refine run_ret ?_
    refine fin_ret1 rfl rfl ?_
    have e1 : (ps.take ps.length ++ vs :: ps.drop ps.length).flatten = ps.flatten ++ vs := by rw [List.take_length, List.drop_length]; simp
    refine ⟨g2, cap2, sp2, rfl, hl2, by rw [e1]; exact hcz2, hg2, ?_⟩
    rw [e1]
    exact H1
  · have hil : i < ps.length := by omega
    obtain ⟨gx, rfl⟩ := own_some H (i := 0) rfl (by rw [List.length_append, hp.len]; have : 0 < ps.length * 4 := Nat.mul_pos (by omega) (by decide); omega)
    refine ops_nil ?_
    refine nR95 ?_
    refine run_cond_false rfl ?_
    refine run_skip ?_
    refine run_seq ?_
    refine run_seq ?_
    refine run_region ?_
    refine ops_val (ex_move rfl) ?_
    refine ops_val (ex_move rfl) ?_
    refine ops_val (ex_add rfl rfl (IntWalk.i64_in _ (by omega))) ?_
    refine ops_val (ex_move rfl) ?_
    refine nO95 ?_
    refine ops_val (ex_cap_slice Try.underlying25 rfl) ?_
    refine ops_test (ex_gtr rfl rfl) (fun hp31 => ?_) (fun hp31 => ?_)
    · skip
      refine ops_nil ?_
      refine nR95 ?_
      refine run_cond_true rfl ?_
      refine run_seq ?_
      refine run_region ?_
      refine ops_val (ex_move rfl) ?_
      refine ops_val (ex_move rfl) ?_
      refine ops_val (ex_hi Try.underlying25 ty46 rfl rfl rfl (by omega)) ?_
      refine ops_val (ex_move rfl) ?_
      refine nO95 ?_
      refine ops_val (ex_move rfl) ?_
      refine ops_val (ex_add rfl rfl (IntWalk.i64_in _ (by omega))) ?_
      refine ops_val (ex_move rfl) ?_
      refine ops_val (ex_sub rfl rfl ((IntWalk.i64_in _ (by omega)).trans (show ((ps.length : Int) + 1 - (i : Int)) = ((ps.length + 1 - i : Nat) : Int) by omega))) ?_
      refine nO95 ?_
      refine ops_append0 Try.underlying25 Try.underlying3 ty46 (by decide) H rfl (hrd.headN (by omega) (fun h => by cases h)) rfl (by omega) (by omega) (by omega) (by omega) (by decide) ?_
      intro w1 g2 cap2 sp2 H1 hcz2 hl2
      refine ops_val (ex_assign rfl) ?_
      refine ops_nil ?_
      refine nR95 ?_
      refine run_seq ?_
      refine run_region ?_
      refine ops_val (ex_move rfl) ?_
      refine ops_val (ex_move rfl) ?_
      have hie : i + (ps.length + 1 - i) = ps.length + 1 := by omega
      have hrow2 : (ps.flatten.take (i * 4) ++ initL [.int .i64 0, .string .empty, .int .i64 0, .int .i64 0] (ps.length + 1 - i)).length = (ps.length + 1) * 4 := by
        rw [List.length_append, List.length_take, hp.len, initL_length, Nat.min_eq_left (Nat.mul_le_mul_right _ (by omega))]
        show i * 4 + (ps.length + 1 - i) * 4 = _
        rw [← Nat.add_mul, hie]
      have hlv : (i + 1) * 4 ≤ (ps.length + 1) * 4 := Nat.mul_le_mul_right _ (by omega)
      have hvr := (⟨by rw [hvl], fun a ha jx u hu => by cases ha; rw [addn, Nat.zero_add]; exact (by simp [World.cell?, H1.keep hv hgv, hu]), fun h => by cases h⟩ : Rd w1 (some ⟨gv, 0, none⟩) 1 4 vs)
      refine ops_val (ex_lo Try.underlying25 ty46 rfl rfl rfl (by omega) (by omega)) ?_
      refine ops_val (ex_move rfl) ?_
      refine nO95 ?_
      refine ops_copyN Try.underlying25 ty46 H1 1 (o := 0 + i * 4) (vs := vs) (by first | rfl | (rw [← addn]; rfl)) rfl rfl (by rw [hvl]; show 4 = Nat.min 1 (i + (ps.length + 1 - i) - i) * 4; rw [nminl]; omega) (fun jx u hu => hvr.cells _ rfl jx u hu) (by rw [List.length_append, hrow2, hvl]; omega) hvo ?_
      intro w2 H2
      refine ops_nil ?_
      refine nR95 ?_
      refine run_seq ?_
      refine run_mixZ 8 [(true, 0), (true, 1), (true, 2), (true, 3), (true, 4), (true, 5), (true, 6), (true, 7), (false, 8)] H2 [0, 1] mixed (by decide) (by kernel_rfl) ?_
      rintro w3 hw3
      have H3 := Hp.drew H2; rw [← hw3] at H3
      refine mixz_p rfl ?_
      refine mix1_val (fun wz hz => ex_move rfl) ?_
      refine mixz_p rfl ?_
      refine mix1_val (fun wz hz => ex_move rfl) ?_
      refine mixz_p rfl ?_
      refine mix1_val (fun wz hz => ex_move rfl) ?_
      refine mixz_p rfl ?_
      refine mix1_val (fun wz hz => ex_add rfl rfl (IntWalk.i64_in _ (by omega))) ?_
      refine nZ95 ?_
      refine mixz_p rfl ?_
      refine mix1_val (fun wz hz => ex_lo Try.underlying25 ty46 rfl rfl (i := i + 1) (by omega) (by omega) (by omega)) ?_
      refine mixz_p rfl ?_
      refine mix1_val (fun wz hz => ex_move rfl) ?_
      refine mixz_p rfl ?_
      refine mix1_val (fun wz hz => ex_move rfl) ?_
      refine mixz_p rfl ?_
      refine mix1_val (fun wz hz => ex_lo Try.underlying25 ty46 rfl rfl rfl (by omega) (by omega)) ?_
      refine nZ95 ?_
      refine mixz_o rfl ?_
      have hdl : (ps.flatten.drop (i * 4)).length = (ps.length - i) * 4 := by rw [List.length_drop, hp.len, ← Nat.sub_mul]
      refine ops_copyN Try.underlying25 ty46 H3 1 (o := 0 + (i + 1) * 4) (vs := ps.flatten.drop (i * 4)) (by first | rfl | (rw [← addn]; rfl)) rfl rfl (by rw [hdl]; show _ = Nat.min (ps.length - i) (i + (ps.length + 1 - i) - (i + 1)) * 4; rw [nminl]; omega) (fun jx u hu => by
        rw [add_add, addn, Nat.zero_add]
        exact H3.cell (i := 0) rfl (by rw [List.getElem?_append_left (by have := lt_of_get hu; rw [List.length_drop] at this; omega)]; rwa [List.getElem?_drop] at hu)) (by rw [putAt_len (by rw [List.length_append, hrow2, hvl]; omega), List.length_append, hrow2, hdl, Nat.zero_add, ← Nat.add_mul, show i + 1 + (ps.length - i) = ps.length + 1 by omega]; omega) (by rw [List.all_eq_true] at hones ⊢; exact fun x hx => hones x (List.mem_of_mem_drop hx)) ?_
      intro w4 H4
      refine ops_nil ?_
      refine ⟨fun hne => absurd rfl hne, ?_⟩
      refine nZ95 ?_
      refine mixz_nil ?_
      refine nR95 ?_
      refine run_seq ?_
      refine run_region ?_
      refine ops_val (ex_move rfl) ?_
      refine ops_val (ex_assign rfl) ?_
      refine ops_nil ?_
      refine nR95 ?_
      refine run_ret ?_
      refine fin_ret1 rfl rfl ?_
      have HZ := H4.pick [1] (by decide)
      change Hp _ _ _ [((some g2, 46, putAt (putAt _ (0 + i * 4) _) (0 + (i + 1) * 4) _) : Ent)] at HZ
      rw [Nat.zero_add, Nat.zero_add, ins_new (sp := sp2) hp rfl (by omega) hvl (by rw [initL_length]; rfl) rfl] at HZ
      refine ⟨some g2, cap2, sp2, by rw [hie], by omega, ?_, (fun h => by cases h), HZ⟩
      rw [List.length_append] at hcz2 ⊢
      rw [hrow2] at hcz2
      have hp2 : Pl 4 (ps.take i ++ vs :: ps.drop i) := (hp.sub fun x hx => List.mem_of_mem_take hx).app fun x hx => by
        rcases List.mem_cons.1 hx with rfl | hx
        · exact hvl
        · exact hp x (List.mem_of_mem_drop hx)
      rw [hp2.len]
      have : (ps.take i ++ vs :: ps.drop i).length = ps.length + 1 := by rw [List.length_append, List.length_cons, List.length_take, List.length_drop]; omega
      rw [this]; exact hcz2
    · skip
      refine ops_nil ?_
      refine nR95 ?_
      refine run_cond_false rfl ?_
      refine run_skip ?_
      refine run_seq ?_
      refine run_region ?_
      refine ops_val (ex_move rfl) ?_
      refine ops_val (ex_move rfl) ?_
      refine ops_val (ex_move rfl) ?_
      refine ops_val (ex_add rfl rfl (IntWalk.i64_in _ (by omega))) ?_
      refine nO95 ?_
      have hspl : 4 ≤ sp.length := by
        rw [List.length_append, hp.len] at hcz
        have : (ps.length + 1) * 4 ≤ cap * 4 := Nat.mul_le_mul_right _ (by omega)
        omega
      refine ops_val (ex_hi Try.underlying25 ty46 rfl rfl (i := ps.length + 1) (by omega) (by omega)) ?_
      refine ops_val (ex_assign rfl) ?_
      refine ops_nil ?_
      refine nR95 ?_
      refine run_seq ?_
      refine run_seq ?_
      refine run_region ?_
      refine ops_val (ex_move rfl) ?_
      refine ops_val (ex_move rfl) ?_
      refine ops_val (ex_move rfl) ?_
      refine ops_val (ex_move rfl) ?_
      refine nO95 ?_
      refine ops_val (ex_add rfl rfl (IntWalk.i64_in _ (by omega))) ?_
      refine ops_val (ex_lo Try.underlying25 ty46 rfl rfl (i := i + 1) (by omega) (by omega) (by omega)) ?_
      have hgvh := H.keep hv hgv
      have hgxh := H.at (i := 0) rfl
      have hne : gv ≠ gx := fun h => hgv (by rw [h]; simp [bl])
      refine ops_extern (fn := (Try.prog.funcs[50]?).get!) (e := Extern.SlicesOverlaps.overlaps #[25, 25] #[4]) (v := .bool false) (by kernel_rfl) (by kernel_rfl) (by kernel_rfl) (by kernel_rfl) (by kernel_rfl) rfl (Lib.run_overlaps_apart w0 25 4 46 Try.underlying25 4 (fun w => run_sizeOf ty46) ⟨gv, 0, none⟩ _ 1 1 _ _ (by rw [addn]; exact hne) 46 46 4 _ (by simp [World.shape?, hgvh]; exact hvl) (by rw [addn]; simp only [World.shape?, hgxh]; rfl) (by simp only [List.size_toArray, List.length_append]; omega) (by simp [World.frozen?, hgvh]) (by simp [World.frozen?, hgvh])) ?_
      refine ops_val (ex_not rfl) ?_
      refine ops_nil ?_
      refine nR95 ?_
      refine run_cond_true rfl ?_
      refine run_seq ?_
      refine run_mixZ 8 [(true, 0), (true, 1), (true, 2), (true, 3), (true, 4), (true, 5), (true, 6), (true, 7), (false, 8)] H [0] mixed (by decide) (by kernel_rfl) ?_
      rintro w1 hw1
      have H1 := Hp.drew H; rw [← hw1] at H1
      refine mixz_p rfl ?_
      refine mix1_val (fun wz hz => ex_move rfl) ?_
      refine mixz_p rfl ?_
      refine mix1_val (fun wz hz => ex_move rfl) ?_
      refine mixz_p rfl ?_
      refine mix1_val (fun wz hz => ex_move rfl) ?_
      refine mixz_p rfl ?_
      refine mix1_val (fun wz hz => ex_add rfl rfl (IntWalk.i64_in _ (by omega))) ?_
      refine nZ95 ?_
      refine mixz_p rfl ?_
      refine mix1_val (fun wz hz => ex_lo Try.underlying25 ty46 rfl rfl (i := i + 1) (by omega) (by omega) (by omega)) ?_
      refine mixz_p rfl ?_
      refine mix1_val (fun wz hz => ex_move rfl) ?_
      refine mixz_p rfl ?_
      refine mix1_val (fun wz hz => ex_move rfl) ?_
      refine mixz_p rfl ?_
      refine mix1_val (fun wz hz => ex_lo Try.underlying25 ty46 rfl rfl rfl (by omega) (by omega)) ?_
      refine nZ95 ?_
      refine mixz_o rfl ?_
      have hdl : (ps.flatten.drop (i * 4)).length = (ps.length - i) * 4 := by rw [List.length_drop, hp.len, ← Nat.sub_mul]
      have hlv : (i + 1) * 4 + (ps.length - i) * 4 = (ps.length + 1) * 4 := by rw [← Nat.add_mul, show i + 1 + (ps.length - i) = ps.length + 1 by omega]
      have hlw : (ps.length + 1) * 4 = ps.length * 4 + 4 := by omega
      refine ops_copyN Try.underlying25 ty46 H1 0 (o := 0 + (i + 1) * 4) (vs := ps.flatten.drop (i * 4)) (by first | rfl | (rw [← addn]; rfl)) rfl rfl (by rw [hdl]; show _ = Nat.min (ps.length + 1 - i) (ps.length + 1 - (i + 1)) * 4; rw [show Nat.min (ps.length + 1 - i) (ps.length + 1 - (i + 1)) = ps.length - i from (by show min _ _ = _; omega)]) (fun jx u hu => by
        rw [add_add, addn, Nat.zero_add]
        exact H1.cell (i := 0) rfl (by rw [List.getElem?_append_left (by have := lt_of_get hu; rw [List.length_drop] at this; omega)]; rwa [List.getElem?_drop] at hu)) (by rw [List.length_append, hp.len, hdl]; omega) (by rw [List.all_eq_true] at hones ⊢; exact fun x hx => hones x (List.mem_of_mem_drop hx)) ?_
      intro w2 H2
      refine ops_nil ?_
      refine ⟨fun hne => absurd rfl hne, ?_⟩
      refine nZ95 ?_
      refine mixz_nil ?_
      refine nR95 ?_
      refine run_seq ?_
      refine run_region ?_
      refine ops_val (ex_move rfl) ?_
      refine ops_val (ex_move rfl) ?_
      refine ops_val (ex_lo Try.underlying25 ty46 rfl rfl rfl (by omega) (by omega)) ?_
      refine ops_val (ex_move rfl) ?_
      refine nO95 ?_
      have hvr := (⟨by rw [hvl], fun a ha jx u hu => by cases ha; rw [addn, Nat.zero_add]; exact (by simp [World.cell?, H2.keep hv hgv, hu]), fun h => by cases h⟩ : Rd w2 (some ⟨gv, 0, none⟩) 1 4 vs)
      refine ops_copyN Try.underlying25 ty46 H2 0 (o := 0 + i * 4) (vs := vs) (by first | rfl | (rw [← addn]; rfl)) rfl rfl (by rw [hvl]; show 4 = Nat.min 1 (ps.length + 1 - i) * 4; rw [nminl]; omega) (fun jx u hu => hvr.cells _ rfl jx u hu) (by rw [putAt_len (by rw [List.length_append, hp.len, hdl]; omega), List.length_append, hp.len, hvl]; have : i * 4 ≤ ps.length * 4 := Nat.mul_le_mul_right _ (by omega); omega) hvo ?_
      intro w3 H3
      refine ops_nil ?_
      refine nR95 ?_
      refine run_seq ?_
      refine run_region ?_
      refine ops_val (ex_move rfl) ?_
      refine ops_val (ex_assign rfl) ?_
      refine ops_nil ?_
      refine nR95 ?_
      refine run_ret ?_
      refine fin_ret1 rfl rfl ?_
      have HZ := H3
      change Hp _ _ _ [((some gx, 46, putAt (putAt _ (0 + (i + 1) * 4) _) (0 + i * 4) _) : Ent)] at HZ
      rw [Nat.zero_add, Nat.zero_add, ins_in hp rfl (by omega) hvl hspl] at HZ
      have hp2 : Pl 4 (ps.take i ++ vs :: ps.drop i) := (hp.sub fun x hx => List.mem_of_mem_take hx).app fun x hx => by
        rcases List.mem_cons.1 hx with rfl | hx
        · exact hvl
        · exact hp x (List.mem_of_mem_drop hx)
      have hl3 : (ps.take i ++ vs :: ps.drop i).length = ps.length + 1 := by rw [List.length_append, List.length_cons, List.length_take, List.length_drop]; omega
      refine ⟨some gx, cap, sp.drop 4, rfl, by omega, ?_, (fun h => by cases h), HZ⟩
      rw [List.length_append, hp.len] at hcz
      rw [List.length_append, hp2.len, hl3, List.length_drop]
      omega
set_option maxRecDepth 100000 in
set_option maxHeartbeats 16000000 in
theorem insertM (g : Option Nat) (cap i gv n : Nat) (ps : List (List Value)) (hn : ps.length = n) (vs sp : List Value) (w0 : World) (H0 : Hp w0 w0 (bl [((g, 62, ps.flatten ++ sp) : Ent)]) [((g, 62, ps.flatten ++ sp) : Ent)]) (hp : Pl 7 ps) (ho : ∀ p ∈ ps, p.all (·.oneCell') = true) (hl : ps.length ≤ cap) (hcz : cap * 7 ≤ (ps.flatten ++ sp).length) (hg0 : g = none → cap = 0) (hi : i ≤ ps.length) (hv : w0.heap[gv]? = some (.cells vs.toArray 62 (0, 0))) (hvl : vs.length = 7) (hvo : vs.all (·.oneCell') = true) (hgv : gv ∉ bl [((g, 62, ps.flatten ++ sp) : Ent)]) (hb : (ps.length + 1) * 56 ≤ 211106232532992) :
    Does Try.prog 18 #[.slice (hd g) n cap, .int .i64 (i : Int), .slice (some ⟨gv, 0, none⟩) 1 1] w0 (fun r w' => ∃ g' cap' sp', r = .slice (hd g') (ps.length + 1) cap' ∧ ps.length + 1 ≤ cap' ∧ cap' * 7 ≤ ((ps.take i ++ vs :: ps.drop i).flatten ++ sp').length ∧ (g' = none → cap' = 0) ∧ Hp w0 w' (bl [((g, 62, ps.flatten ++ sp) : Ent)]) [((g', 62, (ps.take i ++ vs :: ps.drop i).flatten ++ sp') : Ent)]) := by
  refine does_of Try.func18 Try.ntmps18 rfl ?_
  refine nR95 ?_
  subst hn
  have H := H0
  have hrd := H.rd (i := 0) rfl hp.len (by decide)
  have hones := ones_flatten ho
  refine run_seq ?_
  refine run_region ?_
  refine ops_val (ex_assign rfl) ?_
  refine ops_nil ?_
  refine nR95 ?_
  refine run_seq ?_
  refine run_region ?_
  refine ops_val (ex_move rfl) ?_
  refine ops_val (ex_move rfl) ?_
  refine ops_val (ex_cutLo Try.underlying26 ty62 rfl rfl ⟨by omega, by omega⟩) ?_
  refine ops_nil ?_
  refine nR95 ?_
  refine run_seq ?_
  refine run_region ?_
  refine ops_val (ex_move rfl) ?_
  refine ops_val (ex_len_slice Try.underlying26 rfl) ?_
  refine ops_val (ex_assign rfl) ?_
  refine ops_nil ?_
  refine nR95 ?_
  refine run_seq ?_
  refine run_seq ?_
  refine run_region ?_
  refine ops_val (ex_move rfl) ?_
  refine ops_false (ex_eql rfl rfl) (by decide) ?_
  refine ops_nil ?_
  refine nR95 ?_
  refine run_cond_false rfl ?_
  refine run_skip ?_
  refine run_seq ?_
  refine run_region ?_
  refine ops_val (ex_move rfl) ?_
  refine ops_val (ex_len_slice Try.underlying26 rfl) ?_
  refine ops_val (ex_assign rfl) ?_
  refine ops_nil ?_
  refine nR95 ?_
  refine run_seq ?_
  refine run_seq ?_
  refine run_region ?_
  refine ops_val (ex_move rfl) ?_
  refine ops_val (ex_move rfl) ?_
  refine ops_test (ex_eql rfl rfl) (fun hp22 => ?_) (fun hp22 => ?_)
  · obtain rfl : i = ps.length := by omega
    refine ops_nil ?_
    refine nR95 ?_
    refine run_cond_true rfl ?_
    refine run_seq ?_
    refine run_region ?_
    refine ops_val (ex_move rfl) ?_
    refine ops_val (ex_move rfl) ?_
    have hvr := (⟨by rw [hvl], fun a ha jx u hu => by cases ha; rw [addn, Nat.zero_add]; exact (by simp [World.cell?, H.keep hv hgv, hu]), fun h => by cases h⟩ : Rd w0 (some ⟨gv, 0, none⟩) 1 7 vs)
    refine ops_append Try.underlying26 ty62 (by decide) H 0 (g := g) (xs := ps.flatten) (sp := sp) rfl rfl hp.len hcz hl hg0 rfl hvr hvo (by omega) (by omega) (by decide) ?_
    intro w1 g2 cap2 sp2 H1 hcz2 hl2 hg2
    refine ops_val (ex_assign rfl) ?_
    refine ops_nil ?_
    refine nR95 ?_
    refine run_ret ?_
    refine fin_ret1 rfl rfl ?_
    have e1 : (ps.take ps.length ++ vs :: ps.drop ps.length).flatten = ps.flatten ++ vs := by rw [List.take_length, List.drop_length]; simp
    refine ⟨g2, cap2, sp2, rfl, hl2, by rw [e1]; exact hcz2, hg2, ?_⟩
    rw [e1]
    exact H1
  · have hil : i < ps.length := by omega
    obtain ⟨gx, rfl⟩ := own_some H (i := 0) rfl (by rw [List.length_append, hp.len]; have : 0 < ps.length * 7 := Nat.mul_pos (by omega) (by decide); omega)
    refine ops_nil ?_
    refine nR95 ?_
    refine run_cond_false rfl ?_
    refine run_skip ?_
    refine run_seq ?_
    refine run_seq ?_
    refine run_region ?_
    refine ops_val (ex_move rfl) ?_
    refine ops_val (ex_move rfl) ?_
    refine ops_val (ex_add rfl rfl (IntWalk.i64_in _ (by omega))) ?_
    refine ops_val (ex_move rfl) ?_
    refine nO95 ?_
    refine ops_val (ex_cap_slice Try.underlying26 rfl) ?_
    refine ops_test (ex_gtr rfl rfl) (fun hp31 => ?_) (fun hp31 => ?_)
    · skip
      refine ops_nil ?_
      refine nR95 ?_
      refine run_cond_true rfl ?_
      refine run_seq ?_
      refine run_region ?_
      refine ops_val (ex_move rfl) ?_
      refine ops_val (ex_move rfl) ?_
      refine ops_val (ex_hi Try.underlying26 ty62 rfl rfl rfl (by omega)) ?_
      refine ops_val (ex_move rfl) ?_
      refine nO95 ?_
      refine ops_val (ex_move rfl) ?_
      refine ops_val (ex_add rfl rfl (IntWalk.i64_in _ (by omega))) ?_
      refine ops_val (ex_move rfl) ?_
      refine ops_val (ex_sub rfl rfl ((IntWalk.i64_in _ (by omega)).trans (show ((ps.length : Int) + 1 - (i : Int)) = ((ps.length + 1 - i : Nat) : Int) by omega))) ?_
      refine nO95 ?_
      refine ops_append0 Try.underlying26 Try.underlying3 ty62 (by decide) H rfl (hrd.headN (by omega) (fun h => by cases h)) rfl (by omega) (by omega) (by omega) (by omega) (by decide) ?_
      intro w1 g2 cap2 sp2 H1 hcz2 hl2
      refine ops_val (ex_assign rfl) ?_
      refine ops_nil ?_
      refine nR95 ?_
      refine run_seq ?_
      refine run_region ?_
      refine ops_val (ex_move rfl) ?_
      refine ops_val (ex_move rfl) ?_
      have hie : i + (ps.length + 1 - i) = ps.length + 1 := by omega
      have hrow2 : (ps.flatten.take (i * 7) ++ initL [.int .i64 0, .int .i64 0, .bool false, .int .i64 0, .int .i64 0, .int .i64 0, .int .i64 0] (ps.length + 1 - i)).length = (ps.length + 1) * 7 := by
        rw [List.length_append, List.length_take, hp.len, initL_length, Nat.min_eq_left (Nat.mul_le_mul_right _ (by omega))]
        show i * 7 + (ps.length + 1 - i) * 7 = _
        rw [← Nat.add_mul, hie]
      have hlv : (i + 1) * 7 ≤ (ps.length + 1) * 7 := Nat.mul_le_mul_right _ (by omega)
      have hvr := (⟨by rw [hvl], fun a ha jx u hu => by cases ha; rw [addn, Nat.zero_add]; exact (by simp [World.cell?, H1.keep hv hgv, hu]), fun h => by cases h⟩ : Rd w1 (some ⟨gv, 0, none⟩) 1 7 vs)
      refine ops_val (ex_lo Try.underlying26 ty62 rfl rfl rfl (by omega) (by omega)) ?_
      refine ops_val (ex_move rfl) ?_
      refine nO95 ?_
      refine ops_copyN Try.underlying26 ty62 H1 1 (o := 0 + i * 7) (vs := vs) (by first | rfl | (rw [← addn]; rfl)) rfl rfl (by rw [hvl]; show 7 = Nat.min 1 (i + (ps.length + 1 - i) - i) * 7; rw [nminl]; omega) (fun jx u hu => hvr.cells _ rfl jx u hu) (by rw [List.length_append, hrow2, hvl]; omega) hvo ?_
      intro w2 H2
      refine ops_nil ?_
      refine nR95 ?_
      refine run_seq ?_
      refine run_mixZ 8 [(true, 0), (true, 1), (true, 2), (true, 3), (true, 4), (true, 5), (true, 6), (true, 7), (false, 8)] H2 [0, 1] mixed (by decide) (by kernel_rfl) ?_
      rintro w3 hw3
      have H3 := Hp.drew H2; rw [← hw3] at H3
      refine mixz_p rfl ?_
      refine mix1_val (fun wz hz => ex_move rfl) ?_
      refine mixz_p rfl ?_
      refine mix1_val (fun wz hz => ex_move rfl) ?_
      refine mixz_p rfl ?_
      refine mix1_val (fun wz hz => ex_move rfl) ?_
      refine mixz_p rfl ?_
      refine mix1_val (fun wz hz => ex_add rfl rfl (IntWalk.i64_in _ (by omega))) ?_
      refine nZ95 ?_
      refine mixz_p rfl ?_
      refine mix1_val (fun wz hz => ex_lo Try.underlying26 ty62 rfl rfl (i := i + 1) (by omega) (by omega) (by omega)) ?_
      refine mixz_p rfl ?_
      refine mix1_val (fun wz hz => ex_move rfl) ?_
      refine mixz_p rfl ?_
      refine mix1_val (fun wz hz => ex_move rfl) ?_
      refine mixz_p rfl ?_
      refine mix1_val (fun wz hz => ex_lo Try.underlying26 ty62 rfl rfl rfl (by omega) (by omega)) ?_
      refine nZ95 ?_
      refine mixz_o rfl ?_
      have hdl : (ps.flatten.drop (i * 7)).length = (ps.length - i) * 7 := by rw [List.length_drop, hp.len, ← Nat.sub_mul]
      refine ops_copyN Try.underlying26 ty62 H3 1 (o := 0 + (i + 1) * 7) (vs := ps.flatten.drop (i * 7)) (by first | rfl | (rw [← addn]; rfl)) rfl rfl (by rw [hdl]; show _ = Nat.min (ps.length - i) (i + (ps.length + 1 - i) - (i + 1)) * 7; rw [nminl]; omega) (fun jx u hu => by
        rw [add_add, addn, Nat.zero_add]
        exact H3.cell (i := 0) rfl (by rw [List.getElem?_append_left (by have := lt_of_get hu; rw [List.length_drop] at this; omega)]; rwa [List.getElem?_drop] at hu)) (by rw [putAt_len (by rw [List.length_append, hrow2, hvl]; omega), List.length_append, hrow2, hdl, Nat.zero_add, ← Nat.add_mul, show i + 1 + (ps.length - i) = ps.length + 1 by omega]; omega) (by rw [List.all_eq_true] at hones ⊢; exact fun x hx => hones x (List.mem_of_mem_drop hx)) ?_
      intro w4 H4
      refine ops_nil ?_
      refine ⟨fun hne => absurd rfl hne, ?_⟩
      refine nZ95 ?_
      refine mixz_nil ?_
      refine nR95 ?_
      refine run_seq ?_
      refine run_region ?_
      refine ops_val (ex_move rfl) ?_
      refine ops_val (ex_assign rfl) ?_
      refine ops_nil ?_
      refine nR95 ?_
      refine run_ret ?_
      refine fin_ret1 rfl rfl ?_
      have HZ := H4.pick [1] (by decide)
      change Hp _ _ _ [((some g2, 62, putAt (putAt _ (0 + i * 7) _) (0 + (i + 1) * 7) _) : Ent)] at HZ
      rw [Nat.zero_add, Nat.zero_add, ins_new (sp := sp2) hp rfl (by omega) hvl (by rw [initL_length]; rfl) rfl] at HZ
      refine ⟨some g2, cap2, sp2, by rw [hie], by omega, ?_, (fun h => by cases h), HZ⟩
      rw [List.length_append] at hcz2 ⊢
      rw [hrow2] at hcz2
      have hp2 : Pl 7 (ps.take i ++ vs :: ps.drop i) := (hp.sub fun x hx => List.mem_of_mem_take hx).app fun x hx => by
        rcases List.mem_cons.1 hx with rfl | hx
        · exact hvl
        · exact hp x (List.mem_of_mem_drop hx)
      rw [hp2.len]
      have : (ps.take i ++ vs :: ps.drop i).length = ps.length + 1 := by rw [List.length_append, List.length_cons, List.length_take, List.length_drop]; omega
      rw [this]; exact hcz2
    · skip
      refine ops_nil ?_
      refine nR95 ?_
      refine run_cond_false rfl ?_
      refine run_skip ?_
      refine run_seq ?_
      refine run_region ?_
      refine ops_val (ex_move rfl) ?_
      refine ops_val (ex_move rfl) ?_
      refine ops_val (ex_move rfl) ?_
      refine ops_val (ex_add rfl rfl (IntWalk.i64_in _ (by omega))) ?_
      refine nO95 ?_
      have hspl : 7 ≤ sp.length := by
        rw [List.length_append, hp.len] at hcz
        have : (ps.length + 1) * 7 ≤ cap * 7 := Nat.mul_le_mul_right _ (by omega)
        omega
      refine ops_val (ex_hi Try.underlying26 ty62 rfl rfl (i := ps.length + 1) (by omega) (by omega)) ?_
      refine ops_val (ex_assign rfl) ?_
      refine ops_nil ?_
      refine nR95 ?_
      refine run_seq ?_
      refine run_seq ?_
      refine run_region ?_
      refine ops_val (ex_move rfl) ?_
      refine ops_val (ex_move rfl) ?_
      refine ops_val (ex_move rfl) ?_
      refine ops_val (ex_move rfl) ?_
      refine nO95 ?_
      refine ops_val (ex_add rfl rfl (IntWalk.i64_in _ (by omega))) ?_
      refine ops_val (ex_lo Try.underlying26 ty62 rfl rfl (i := i + 1) (by omega) (by omega) (by omega)) ?_
      have hgvh := H.keep hv hgv
      have hgxh := H.at (i := 0) rfl
      have hne : gv ≠ gx := fun h => hgv (by rw [h]; simp [bl])
      refine ops_extern (fn := (Try.prog.funcs[33]?).get!) (e := Extern.SlicesOverlaps.overlaps #[26, 26] #[4]) (v := .bool false) (by kernel_rfl) (by kernel_rfl) (by kernel_rfl) (by kernel_rfl) (by kernel_rfl) rfl (Lib.run_overlaps_apart w0 26 4 62 Try.underlying26 7 (fun w => run_sizeOf ty62) ⟨gv, 0, none⟩ _ 1 1 _ _ (by rw [addn]; exact hne) 62 62 7 _ (by simp [World.shape?, hgvh]; exact hvl) (by rw [addn]; simp only [World.shape?, hgxh]; rfl) (by simp only [List.size_toArray, List.length_append]; omega) (by simp [World.frozen?, hgvh]) (by simp [World.frozen?, hgvh])) ?_
      refine ops_val (ex_not rfl) ?_
      refine ops_nil ?_
      refine nR95 ?_
      refine run_cond_true rfl ?_
      refine run_seq ?_
      refine run_mixZ 8 [(true, 0), (true, 1), (true, 2), (true, 3), (true, 4), (true, 5), (true, 6), (true, 7), (false, 8)] H [0] mixed (by decide) (by kernel_rfl) ?_
      rintro w1 hw1
      have H1 := Hp.drew H; rw [← hw1] at H1
      refine mixz_p rfl ?_
      refine mix1_val (fun wz hz => ex_move rfl) ?_
      refine mixz_p rfl ?_
      refine mix1_val (fun wz hz => ex_move rfl) ?_
      refine mixz_p rfl ?_
      refine mix1_val (fun wz hz => ex_move rfl) ?_
      refine mixz_p rfl ?_
      refine mix1_val (fun wz hz => ex_add rfl rfl (IntWalk.i64_in _ (by omega))) ?_
      refine nZ95 ?_
      refine mixz_p rfl ?_
      refine mix1_val (fun wz hz => ex_lo Try.underlying26 ty62 rfl rfl (i := i + 1) (by omega) (by omega) (by omega)) ?_
      refine mixz_p rfl ?_
      refine mix1_val (fun wz hz => ex_move rfl) ?_
      refine mixz_p rfl ?_
      refine mix1_val (fun wz hz => ex_move rfl) ?_
      refine mixz_p rfl ?_
      refine mix1_val (fun wz hz => ex_lo Try.underlying26 ty62 rfl rfl rfl (by omega) (by omega)) ?_
      refine nZ95 ?_
      refine mixz_o rfl ?_
      have hdl : (ps.flatten.drop (i * 7)).length = (ps.length - i) * 7 := by rw [List.length_drop, hp.len, ← Nat.sub_mul]
      have hlv : (i + 1) * 7 + (ps.length - i) * 7 = (ps.length + 1) * 7 := by rw [← Nat.add_mul, show i + 1 + (ps.length - i) = ps.length + 1 by omega]
      have hlw : (ps.length + 1) * 7 = ps.length * 7 + 7 := by omega
      refine ops_copyN Try.underlying26 ty62 H1 0 (o := 0 + (i + 1) * 7) (vs := ps.flatten.drop (i * 7)) (by first | rfl | (rw [← addn]; rfl)) rfl rfl (by rw [hdl]; show _ = Nat.min (ps.length + 1 - i) (ps.length + 1 - (i + 1)) * 7; rw [show Nat.min (ps.length + 1 - i) (ps.length + 1 - (i + 1)) = ps.length - i from (by show min _ _ = _; omega)]) (fun jx u hu => by
        rw [add_add, addn, Nat.zero_add]
        exact H1.cell (i := 0) rfl (by rw [List.getElem?_append_left (by have := lt_of_get hu; rw [List.length_drop] at this; omega)]; rwa [List.getElem?_drop] at hu)) (by rw [List.length_append, hp.len, hdl]; omega) (by rw [List.all_eq_true] at hones ⊢; exact fun x hx => hones x (List.mem_of_mem_drop hx)) ?_
      intro w2 H2
      refine ops_nil ?_
      refine ⟨fun hne => absurd rfl hne, ?_⟩
      refine nZ95 ?_
      refine mixz_nil ?_
      refine nR95 ?_
      refine run_seq ?_
      refine run_region ?_
      refine ops_val (ex_move rfl) ?_
      refine ops_val (ex_move rfl) ?_
      refine ops_val (ex_lo Try.underlying26 ty62 rfl rfl rfl (by omega) (by omega)) ?_
      refine ops_val (ex_move rfl) ?_
      refine nO95 ?_
      have hvr := (⟨by rw [hvl], fun a ha jx u hu => by cases ha; rw [addn, Nat.zero_add]; exact (by simp [World.cell?, H2.keep hv hgv, hu]), fun h => by cases h⟩ : Rd w2 (some ⟨gv, 0, none⟩) 1 7 vs)
      refine ops_copyN Try.underlying26 ty62 H2 0 (o := 0 + i * 7) (vs := vs) (by first | rfl | (rw [← addn]; rfl)) rfl rfl (by rw [hvl]; show 7 = Nat.min 1 (ps.length + 1 - i) * 7; rw [nminl]; omega) (fun jx u hu => hvr.cells _ rfl jx u hu) (by rw [putAt_len (by rw [List.length_append, hp.len, hdl]; omega), List.length_append, hp.len, hvl]; have : i * 7 ≤ ps.length * 7 := Nat.mul_le_mul_right _ (by omega); omega) hvo ?_
      intro w3 H3
      refine ops_nil ?_
      refine nR95 ?_
      refine run_seq ?_
      refine run_region ?_
      refine ops_val (ex_move rfl) ?_
      refine ops_val (ex_assign rfl) ?_
      refine ops_nil ?_
      refine nR95 ?_
      refine run_ret ?_
      refine fin_ret1 rfl rfl ?_
      have HZ := H3
      change Hp _ _ _ [((some gx, 62, putAt (putAt _ (0 + (i + 1) * 7) _) (0 + i * 7) _) : Ent)] at HZ
      rw [Nat.zero_add, Nat.zero_add, ins_in hp rfl (by omega) hvl hspl] at HZ
      have hp2 : Pl 7 (ps.take i ++ vs :: ps.drop i) := (hp.sub fun x hx => List.mem_of_mem_take hx).app fun x hx => by
        rcases List.mem_cons.1 hx with rfl | hx
        · exact hvl
        · exact hp x (List.mem_of_mem_drop hx)
      have hl3 : (ps.take i ++ vs :: ps.drop i).length = ps.length + 1 := by rw [List.length_append, List.length_cons, List.length_take, List.length_drop]; omega
      refine ⟨some gx, cap, sp.drop 7, rfl, by omega, ?_, (fun h => by cases h), HZ⟩
      rw [List.length_append, hp.len] at hcz
      rw [List.length_append, hp2.len, hl3, List.length_drop]
      omega
end Go.Proofs.Ytbninklfoogmdaa
