/- Walks of layer 2, printed by wip/gen/codec.py. -/
import Derived.Test.YtnlajgeehlpdaaaKeep
namespace Go.Proofs.Ytnlajgeehlpdaaa
open Go Go.RowKit
set_option linter.unusedVariables false
attribute [local irreducible] Still Ops Does Cd
set_option maxRecDepth 100000 in
set_option maxHeartbeats 4000000 in
theorem keeps_any (bk : Int) (A : Option Addr) (s : List OpV) (sc : Nat) (A2 : Option Addr) (mo : List OpV) (mc : Nat) (B : Option Addr) (keep : List Int) (kc_ : Nat) (w0 : World) (hs : ScOk w0 A s) (hs2 : ScOk w0 A2 mo) (hkp : Rd w0 B keep.length 1 (i64s keep)) :
    Does Try.prog 4 #[.int .i64 bk, .slice A s.length sc, .slice A2 mo.length mc, .slice B keep.length kc_] w0 (fun r w' => r = .bool true ∧ Hp w0 w' [] []) := by
  refine does_of Try.func4 Try.ntmps4 rfl ?_
  change Run _ _ _ _ [.int .i64 bk, .slice A s.length sc, .slice A2 mo.length mc, .slice B keep.length kc_, undef, undef, undef, undef, undef, undef, undef, undef, undef, undef, undef, undef, undef, undef, undef, undef, undef, undef, undef, undef, undef, undef, undef, undef, undef, undef, undef, undef, undef, undef, undef, undef, undef, undef, undef, undef, undef, undef, undef, undef, undef, undef, undef, undef, undef, undef, undef, undef, undef, undef, undef, undef, undef, undef, undef, undef, undef, undef, undef, undef, undef, undef, undef, undef, undef, undef, undef, undef, undef, undef, undef, undef, undef, undef, undef, undef, undef, undef, undef, undef, undef, undef, undef, undef, undef, undef, undef, undef, undef, undef, undef, undef, undef, undef, undef, undef, undef, undef, undef, undef, undef, undef, undef, undef, undef, undef, undef, undef, undef, undef, undef, undef, undef, undef, undef, undef, undef, undef, undef, undef, undef, undef, undef, undef, undef, undef, undef, undef, undef, undef, undef, undef, undef, undef, undef, undef, undef, undef, undef, undef, undef, undef, undef, undef, undef, undef, undef, undef, undef, undef, undef, undef, undef, undef, undef, undef, undef, undef, undef, undef, undef, undef, undef, undef] _
  have H := Hp.refl w0
  refine run_seq ?_
  refine run_region ?_
  refine ops_val (ex_assign rfl) ?_
  refine ops_nil ?_
  change Run _ _ _ _ [_, _, _, _, _, _, _, _, _, _, _, _, _, _, _, _, _, _, _, _, _, _, _, _, _, _, _, _, _, _, _, _, _, _, _, _, _, _, _, _, _, _, _, _, _, _, _, _, _, _, _, _, _, _, _, _, _, _, _, _, _, _, _, _, _, _, _, _, _, _, _, _, _, _, _, _, _, _, _, _, _, _, _, _, _, _, _, _, _, _, _, _, _, _, _, _, _, _, _, _, _, _, _, _, _, _, _, _, _, _, _, _, _, _, _, _, _, _, _, _, _, _, _, _, _, _, _, _, _, _, _, _, _, _, _, _, _, _, _, _, _, _, _, _, _, _, _, _, _, _, _, _, _, _, _, _, _, _, _, _, _, _, _, _, _, _, _, _] _
  refine run_seq ?_
  refine run_region ?_
  refine ops_val (ex_move rfl) ?_
  refine ops_val (ex_move rfl) ?_
  refine ops_call (ex_call gf8 rfl) (ran_any bk A s sc _ ⟨hs.rd.to0 H, hs.most, fun o ho => ⟨(hs.each o ho).1, (hs.each o ho).2.1, (hs.each o ho).2.2.to0 H⟩⟩) ?_
  rintro _ w1 ⟨gd, gk, gw, cw, sp, D0, rfl, hO, hk40, hw0, Hd⟩
  have H1 := (H.call0 Hd).pick [0, 1, 2] (by decide)
  have hsm := hs.most
  have hkpos := hO.pos
  refine ops_val (ex_assign rfl) ?_
  refine ops_nil ?_
  change Run _ _ _ _ [_, _, _, _, _, _, _, _, _, _, _, _, _, _, _, _, _, _, _, _, _, _, _, _, _, _, _, _, _, _, _, _, _, _, _, _, _, _, _, _, _, _, _, _, _, _, _, _, _, _, _, _, _, _, _, _, _, _, _, _, _, _, _, _, _, _, _, _, _, _, _, _, _, _, _, _, _, _, _, _, _, _, _, _, _, _, _, _, _, _, _, _, _, _, _, _, _, _, _, _, _, _, _, _, _, _, _, _, _, _, _, _, _, _, _, _, _, _, _, _, _, _, _, _, _, _, _, _, _, _, _, _, _, _, _, _, _, _, _, _, _, _, _, _, _, _, _, _, _, _, _, _, _, _, _, _, _, _, _, _, _, _, _, _, _, _, _, _] _
  refine run_seq ?_
  refine run_seq ?_
  refine run_region ?_
  refine ops_call_val (ex_call gf9 rfl) (awake_any _) ?_
  intro w2 Hd
  have H2 := H1.call0 Hd
  refine ops_val (ex_not rfl) ?_
  refine ops_val (ex_move rfl) ?_
  change Ops _ _ _ _ _ _ [_, _, _, _, _, _, _, _, _, _, _, _, _, _, _, _, _, _, _, _, _, _, _, _, _, _, _, _, _, _, _, _, _, _, _, _, _, _, _, _, _, _, _, _, _, _, _, _, _, _, _, _, _, _, _, _, _, _, _, _, _, _, _, _, _, _, _, _, _, _, _, _, _, _, _, _, _, _, _, _, _, _, _, _, _, _, _, _, _, _, _, _, _, _, _, _, _, _, _, _, _, _, _, _, _, _, _, _, _, _, _, _, _, _, _, _, _, _, _, _, _, _, _, _, _, _, _, _, _, _, _, _, _, _, _, _, _, _, _, _, _, _, _, _, _, _, _, _, _, _, _, _, _, _, _, _, _, _, _, _, _, _, _, _, _, _, _, _] _
  refine ops_yes rfl ?_
  refine ops_val (ex_move rfl) ?_
  refine ops_yes rfl ?_
  refine ops_false (ex_eql_nil_ptr Try.underlying24 rfl) (by simp) ?_
  refine ops_val (ex_pick_f rfl rfl) ?_
  refine ops_nil ?_
  change Run _ _ _ _ [_, _, _, _, _, _, _, _, _, _, _, _, _, _, _, _, _, _, _, _, _, _, _, _, _, _, _, _, _, _, _, _, _, _, _, _, _, _, _, _, _, _, _, _, _, _, _, _, _, _, _, _, _, _, _, _, _, _, _, _, _, _, _, _, _, _, _, _, _, _, _, _, _, _, _, _, _, _, _, _, _, _, _, _, _, _, _, _, _, _, _, _, _, _, _, _, _, _, _, _, _, _, _, _, _, _, _, _, _, _, _, _, _, _, _, _, _, _, _, _, _, _, _, _, _, _, _, _, _, _, _, _, _, _, _, _, _, _, _, _, _, _, _, _, _, _, _, _, _, _, _, _, _, _, _, _, _, _, _, _, _, _, _, _, _, _, _, _] _
  refine run_cond_false rfl ?_
  refine run_skip ?_
  refine run_seq ?_
  refine run_region ?_
  refine ops_val (ex_move rfl) ?_
  have hk := (start_any gd gk gw cw sp (D0) _ (H2.pick [0, 1, 2] (by decide)).here hO)
  refine ops_call_val (ex_call gf10 rfl) hk ?_
  intro w3 ⟨gw, cw, sp, hO, Hd⟩
  have H3 := (H2.callr [0, 1, 2] rfl Hd).pick [3, 4, 5] (by decide)
  have hup := start_up D0
  obtain ⟨hb1, hb2⟩ := start_bd D0
  generalize D0.start = D1 at *
  refine ops_nil ?_
  change Run _ _ _ _ [_, _, _, _, _, _, _, _, _, _, _, _, _, _, _, _, _, _, _, _, _, _, _, _, _, _, _, _, _, _, _, _, _, _, _, _, _, _, _, _, _, _, _, _, _, _, _, _, _, _, _, _, _, _, _, _, _, _, _, _, _, _, _, _, _, _, _, _, _, _, _, _, _, _, _, _, _, _, _, _, _, _, _, _, _, _, _, _, _, _, _, _, _, _, _, _, _, _, _, _, _, _, _, _, _, _, _, _, _, _, _, _, _, _, _, _, _, _, _, _, _, _, _, _, _, _, _, _, _, _, _, _, _, _, _, _, _, _, _, _, _, _, _, _, _, _, _, _, _, _, _, _, _, _, _, _, _, _, _, _, _, _, _, _, _, _, _, _] _
  refine run_seq ?_
  refine run_region ?_
  refine ops_val (ex_move rfl) ?_
  have hk := (arm_any gd gk gw cw sp (D1) _ (H3.pick [0, 1, 2] (by decide)).here hO 0 (by decide) (by decide))
  rw [arm_ok hup] at hk
  dsimp only at hk
  refine ops_call_val (ex_call gf11 rfl) hk ?_
  intro w4 ⟨gw, cw, sp, hO, Hd⟩
  have H4 := (H3.callr [0, 1, 2] rfl Hd).pick [3, 4, 5] (by decide)
  obtain ⟨D2, hEQ⟩ : ∃ D, ({ D1 with armed := (max (0 : Int) 0).toNat } : Dk) = D := ⟨_, rfl⟩
  rw [hEQ] at H4 hO
  have hd1 : D2.down = false := by rw [← hEQ]; exact hup
  have hd2 : D2.armed = 0 := by rw [← hEQ]; rfl
  have hd3 : D2.wait.length ≤ s.length := by rw [← hEQ]; show D1.wait.length ≤ _; omega
  have hd4 : D2.kept.length = D0.kept.length := by rw [← hEQ]; exact hb2
  clear hEQ
  refine ops_nil ?_
  change Run _ _ _ _ [_, _, _, _, _, _, _, _, _, _, _, _, _, _, _, _, _, _, _, _, _, _, _, _, _, _, _, _, _, _, _, _, _, _, _, _, _, _, _, _, _, _, _, _, _, _, _, _, _, _, _, _, _, _, _, _, _, _, _, _, _, _, _, _, _, _, _, _, _, _, _, _, _, _, _, _, _, _, _, _, _, _, _, _, _, _, _, _, _, _, _, _, _, _, _, _, _, _, _, _, _, _, _, _, _, _, _, _, _, _, _, _, _, _, _, _, _, _, _, _, _, _, _, _, _, _, _, _, _, _, _, _, _, _, _, _, _, _, _, _, _, _, _, _, _, _, _, _, _, _, _, _, _, _, _, _, _, _, _, _, _, _, _, _, _, _, _, _] _
  refine run_seq ?_
  refine run_seq ?_
  refine run_region ?_
  refine ops_val (ex_move rfl) ?_
  have hk := (sync_any gd gk gw cw sp (D2) _ (H4.pick [0, 1, 2] (by decide)).here hO (by omega))
  rw [sync_free hd1 hd2] at hk
  dsimp only at hk
  refine ops_call_val (ex_call gf17 rfl) hk ?_
  intro w5 ⟨gw, cw, sp, hO, Hd⟩
  have H5 := (H4.callr [0, 1, 2] rfl Hd).pick [3, 4, 5] (by decide)
  obtain ⟨E0, hEQ⟩ : ∃ D, ({ D2 with kept := flush D2.kept D2.wait, wait := [], down := false, armed := 0 } : Dk) = D := ⟨_, rfl⟩
  rw [hEQ] at H5 hO
  have hdn : E0.down = false := by rw [← hEQ]
  have hw0 : E0.wait = [] := by rw [← hEQ]
  have hw1 : E0.wait.length = 0 := by rw [hw0]; rfl
  have hn0 : E0.kept.length = D0.kept.length := by rw [← hEQ]; show (flush _ _).length = _; rw [flush_length]; exact hd4
  have har : E0.armed = 0 := by rw [← hEQ]
  clear hEQ hd1 hd2 hd3 hd4 hb1 hb2
  refine ops_false (ex_neq rfl rfl) (by simp) ?_
  refine ops_nil ?_
  change Run _ _ _ _ [_, _, _, _, _, _, _, _, _, _, _, _, _, _, _, _, _, _, _, _, _, _, _, _, _, _, _, _, _, _, _, _, _, _, _, _, _, _, _, _, _, _, _, _, _, _, _, _, _, _, _, _, _, _, _, _, _, _, _, _, _, _, _, _, _, _, _, _, _, _, _, _, _, _, _, _, _, _, _, _, _, _, _, _, _, _, _, _, _, _, _, _, _, _, _, _, _, _, _, _, _, _, _, _, _, _, _, _, _, _, _, _, _, _, _, _, _, _, _, _, _, _, _, _, _, _, _, _, _, _, _, _, _, _, _, _, _, _, _, _, _, _, _, _, _, _, _, _, _, _, _, _, _, _, _, _, _, _, _, _, _, _, _, _, _, _, _, _] _
  refine run_cond_false rfl ?_
  refine run_skip ?_
  refine run_seq ?_
  refine run_region ?_
  refine ops_val (ex_move rfl) ?_
  have hk := all_any gd gk gw cw sp E0 _ H5.here hO hdn (by omega)
  refine ops_call (ex_call gf19 rfl) hk ?_
  rintro _ w6 ⟨gl1, cl1, sl1, xs1, rfl, hc1, hcc1, hL, hFr1, Hd⟩
  have H6 := H5.all Hd
  clear hFr1
  have h64b : ∀ i, i < E0.kept.length → (E0.show i).length = 64 := fun i hi => show_len hO hi
  have hNpos : 0 < E0.kept.length := by omega
  have hN40 : E0.kept.length ≤ 40 := by omega
  refine ops_val (ex_assign rfl) ?_
  refine ops_nil ?_
  change Run _ _ _ _ [_, _, _, _, _, _, _, _, _, _, _, _, _, _, _, _, _, _, _, _, _, _, _, _, _, _, _, _, _, _, _, _, _, _, _, _, _, _, _, _, _, _, _, _, _, _, _, _, _, _, _, _, _, _, _, _, _, _, _, _, _, _, _, _, _, _, _, _, _, _, _, _, _, _, _, _, _, _, _, _, _, _, _, _, _, _, _, _, _, _, _, _, _, _, _, _, _, _, _, _, _, _, _, _, _, _, _, _, _, _, _, _, _, _, _, _, _, _, _, _, _, _, _, _, _, _, _, _, _, _, _, _, _, _, _, _, _, _, _, _, _, _, _, _, _, _, _, _, _, _, _, _, _, _, _, _, _, _, _, _, _, _, _, _, _, _, _, _] _
  refine run_seq ?_
  refine run_region ?_
  refine ops_val (ex_move rfl) ?_
  refine ops_val (ex_len_slice Try.underlying38 rfl) ?_
  have HB := H6
  replace H6 := HB.here
  refine ops_makeN Try.underlying43 ty38 H6 rfl rfl (n := E0.kept.length) (c := E0.kept.length) (Nat.le_refl _) (by omega) (by omega) ?_
  intro w7 gW H7 hgW
  replace hL := hL.to H7
  replace H7 := (HB.all H7).nils 33 E0.kept.length
  have hbl : ∀ b ∈ bl (dRows gd gk gw cw sp E0 ++ ((gl1, 33, xs1 ++ sl1) :: (some gW, 38, initL [.slice none 0 0] (E0.kept.length)) :: List.replicate (E0.kept.length) (none, 33, []))), b ∈ bl ((dRows gd gk gw cw sp E0 ++ [(gl1, 33, xs1 ++ sl1)]) ++ [(some gW, 38, initL [.slice none 0 0] E0.kept.length)]) := fun b hb => by
    rw [show (dRows gd gk gw cw sp E0 ++ ((gl1, 33, xs1 ++ sl1) :: (some gW, 38, initL [.slice none 0 0] (E0.kept.length)) :: List.replicate (E0.kept.length) (none, 33, []))) = ((dRows gd gk gw cw sp E0 ++ [(gl1, 33, xs1 ++ sl1)]) ++ [(some gW, 38, initL [.slice none 0 0] E0.kept.length)]) ++ List.replicate E0.kept.length (none, 33, []) from rfl, bl_append] at hb
    rcases List.mem_append.1 hb with h | h
    · exact h
    · obtain ⟨x, hx, hx2⟩ := List.mem_filterMap.1 h
      rw [List.eq_of_mem_replicate hx] at hx2
      cases hx2
  replace hL := hL.less hbl
  have hWr := Wr.none_ w7 (dRows gd gk gw cw sp E0 ++ ((gl1, 33, xs1 ++ sl1) :: (some gW, 38, initL [.slice none 0 0] (E0.kept.length)) :: List.replicate (E0.kept.length) (none, 33, []))) E0.kept.length (Wof E0.wait) (fun i => by rw [hw0]; rfl)
  refine ops_val (ex_assign rfl) ?_
  refine ops_nil ?_
  change Run _ _ _ _ [_, _, _, _, _, _, _, _, _, _, _, _, _, _, _, _, _, _, _, _, _, _, _, _, _, _, _, _, _, _, _, _, _, _, _, _, _, _, _, _, _, _, _, _, _, _, _, _, _, _, _, _, _, _, _, _, _, _, _, _, _, _, _, _, _, _, _, _, _, _, _, _, _, _, _, _, _, _, _, _, _, _, _, _, _, _, _, _, _, _, _, _, _, _, _, _, _, _, _, _, _, _, _, _, _, _, _, _, _, _, _, _, _, _, _, _, _, _, _, _, _, _, _, _, _, _, _, _, _, _, _, _, _, _, _, _, _, _, _, _, _, _, _, _, _, _, _, _, _, _, _, _, _, _, _, _, _, _, _, _, _, _, _, _, _, _, _, _] _
  refine run_seq ?_
  refine run_seq ?_
  refine run_region ?_
  refine ops_val (ex_assign rfl) ?_
  refine ops_nil ?_
  change Run _ _ _ _ [_, _, _, _, _, _, _, _, _, _, _, _, _, _, _, _, _, _, _, _, _, _, _, _, _, _, _, _, _, _, _, _, _, _, _, _, _, _, _, _, _, _, _, _, _, _, _, _, _, _, _, _, _, _, _, _, _, _, _, _, _, _, _, _, _, _, _, _, _, _, _, _, _, _, _, _, _, _, _, _, _, _, _, _, _, _, _, _, _, _, _, _, _, _, _, _, _, _, _, _, _, _, _, _, _, _, _, _, _, _, _, _, _, _, _, _, _, _, _, _, _, _, _, _, _, _, _, _, _, _, _, _, _, _, _, _, _, _, _, _, _, _, _, _, _, _, _, _, _, _, _, _, _, _, _, _, _, _, _, _, _, _, _, _, _, _, _, _] _
  refine run_block ?_
  refine run_loop (fun n l w => ∃ (q : Nat) (y : Int) (gw : Option Nat) (cw : Nat) (sp : List Value) (D : Dk) (wv : List Value) (R : List Ent), mo.length - q = n ∧ Fits [none, none, some (.slice A2 mo.length mc), some (.slice B keep.length kc_), none, none, none, none, none, some (.pointer (some ⟨gd, 0, none⟩)), some (.slice (hd gl1) E0.kept.length cl1), some (.slice (hd (some gW)) E0.kept.length E0.kept.length), some (.int .i64 y), none, none, none, none, none, none, none, none, none, none, none, none, none, none, none, none, none, none, none, none, none, none, none, none, none, none, none, none, none, none, none, none, none, none, none, none, none, none, none, none, none, none, none, none, none, none, none, none, none, none, none, none, none, none, none, none, none, none, none, none, none, none, none, none, none, none, none, none, none, none, none, none, none, none, none, none, none, none, none, none, none, none, none, none, none, none, none, none, none, none, none, none, none, none, none, none, none, none, none, none, none, none, none, none, none, none, none, none, none, none, none, none, none, none, none, none, none, none, none, none, none, none, none, none, none, none, none, none, none, none, none, none, none, none, none, none, none, none, none, none, none, none, none, none, none, none, none, none, none, none, none, none, none, none, none] l ∧ y = q ∧ q ≤ mo.length ∧ DOk D gw cw sp ∧ D.down = false ∧ D.armed = 0 ∧ D.kept = E0.kept ∧ D.wait.length ≤ q ∧ Wr w (dRows gd gk gw cw sp D ++ ((gl1, 33, xs1 ++ sl1) :: (some gW, 38, wv) :: R)) (E0.kept.length) wv R (Wof D.wait) ∧ Lst w (dRows gd gk gw cw sp D ++ ((gl1, 33, xs1 ++ sl1) :: (some gW, 38, wv) :: R)) xs1 (E0.shown (E0.kept.length)) ∧ Hp w0 w [] (dRows gd gk gw cw sp D ++ ((gl1, 33, xs1 ++ sl1) :: (some gW, 38, wv) :: R))) (mo.length) ?_ ?_
  · exact ⟨0, _, gw, cw, sp, E0, _, _, rfl, (fn (fn (fs (fs (fn (fn (fn (fn (fn (fs (fs (fs (fs (fn (fn (fn (fn (fn (fn (fn (fn (fn (fn (fn (fn (fn (fn (fn (fn (fn (fn (fn (fn (fn (fn (fn (fn (fn (fn (fn (fn (fn (fn (fn (fn (fn (fn (fn (fn (fn (fn (fn (fn (fn (fn (fn (fn (fn (fn (fn (fn (fn (fn (fn (fn (fn (fn (fn (fn (fn (fn (fn (fn (fn (fn (fn (fn (fn (fn (fn (fn (fn (fn (fn (fn (fn (fn (fn (fn (fn (fn (fn (fn (fn (fn (fn (fn (fn (fn (fn (fn (fn (fn (fn (fn (fn (fn (fn (fn (fn (fn (fn (fn (fn (fn (fn (fn (fn (fn (fn (fn (fn (fn (fn (fn (fn (fn (fn (fn (fn (fn (fn (fn (fn (fn (fn (fn (fn (fn (fn (fn (fn (fn (fn (fn (fn (fn (fn (fn (fn (fn (fn (fn (fn (fn (fn (fn (fn (fn (fn (fn (fn (fn (fn (fn (fn (fn (fn f0)))))))))))))))))))))))))))))))))))))))))))))))))))))))))))))))))))))))))))))))))))))))))))))))))))))))))))))))))))))))))))))))))))))))))))))))))))))))))))))))))))))))), rfl, Nat.zero_le _, hO, hdn, har, rfl, by omega, hWr, hL, H7⟩
  · rintro n l w8 ⟨q, y, gw, cw, sp, D, wv, R, rfl, hfit, rfl, hq, hO, hdn, har, hkp2, hwq, hWr, hL, H8⟩
    obtain ⟨j, rfl⟩ := hfit.open
    change Run _ _ _ _ [_, _, _, _, _, _, _, _, _, _, _, _, _, _, _, _, _, _, _, _, _, _, _, _, _, _, _, _, _, _, _, _, _, _, _, _, _, _, _, _, _, _, _, _, _, _, _, _, _, _, _, _, _, _, _, _, _, _, _, _, _, _, _, _, _, _, _, _, _, _, _, _, _, _, _, _, _, _, _, _, _, _, _, _, _, _, _, _, _, _, _, _, _, _, _, _, _, _, _, _, _, _, _, _, _, _, _, _, _, _, _, _, _, _, _, _, _, _, _, _, _, _, _, _, _, _, _, _, _, _, _, _, _, _, _, _, _, _, _, _, _, _, _, _, _, _, _, _, _, _, _, _, _, _, _, _, _, _, _, _, _, _, _, _, _, _, _, _] _
    clear hfit
    refine run_seq ?_
    refine run_seq ?_
    refine run_region ?_
    refine ops_val (ex_move rfl) ?_
    refine ops_val (ex_move rfl) ?_
    refine ops_val (ex_len_slice Try.underlying22 rfl) ?_
    refine ops_test (ex_lss rfl rfl) (fun hp43 => ?_) (fun hp43 => ?_)
    · have hql : q < mo.length := by omega
      have hmm := hs2.most
      have hwm : D.wait.length ≤ 2932000000000 := by omega
      obtain ⟨he1, he2, he3⟩ := hs2.each mo[q] (List.getElem_mem hql)
      have hsr := hs2.rd
      obtain ⟨⟨pb, po, ps⟩, hA2⟩ := hsr.some_ (by omega)
      subst hA2
      obtain rfl : ps = none := op_spot hsr (by omega)
      refine ops_nil ?_
      change Run _ _ _ _ [_, _, _, _, _, _, _, _, _, _, _, _, _, _, _, _, _, _, _, _, _, _, _, _, _, _, _, _, _, _, _, _, _, _, _, _, _, _, _, _, _, _, _, _, _, _, _, _, _, _, _, _, _, _, _, _, _, _, _, _, _, _, _, _, _, _, _, _, _, _, _, _, _, _, _, _, _, _, _, _, _, _, _, _, _, _, _, _, _, _, _, _, _, _, _, _, _, _, _, _, _, _, _, _, _, _, _, _, _, _, _, _, _, _, _, _, _, _, _, _, _, _, _, _, _, _, _, _, _, _, _, _, _, _, _, _, _, _, _, _, _, _, _, _, _, _, _, _, _, _, _, _, _, _, _, _, _, _, _, _, _, _, _, _, _, _, _, _] _
      refine run_cond_true rfl ?_
      refine run_skip ?_
      refine run_seq ?_
      refine run_block ?_
      refine run_seq ?_
      refine run_region ?_
      refine ops_val (ex_move rfl) ?_
      refine ops_val (ex_move rfl) ?_
      refine ops_val (ex_idxN Try.underlying22 ty45 rfl rfl rfl hql) ?_
      refine ops_val (ex_loadN ty45 rfl (vs := OpV.cells mo[q]) rfl (op_cellN (hsr.to0 H8) hql)) ?_
      change Ops _ _ _ _ _ _ [_, _, _, _, _, _, _, _, _, _, _, _, _, _, _, _, _, _, _, _, _, _, _, _, _, _, _, _, _, _, _, _, _, _, _, _, _, _, _, _, _, _, _, _, _, _, _, _, _, _, _, _, _, _, _, _, _, _, _, _, _, _, _, _, _, _, _, _, _, _, _, _, _, _, _, _, _, _, _, _, _, _, _, _, _, _, _, _, _, _, _, _, _, _, _, _, _, _, _, _, _, _, _, _, _, _, _, _, _, _, _, _, _, _, _, _, _, _, _, _, _, _, _, _, _, _, _, _, _, _, _, _, _, _, _, _, _, _, _, _, _, _, _, _, _, _, _, _, _, _, _, _, _, _, _, _, _, _, _, _, _, _, _, _, _, _, _, _] _
      refine ops_call_own (ex_call gf22 rfl) (data_any mo[q] _) ?_
      intro w9 g6 c6 s6 hm6 hc6 hg6 Hd
      have hbR := Hd.rd (i := 0) (o := g6) (xs := u8s (dataOf mo[q].m mo[q].x)) (sp := s6) rfl (u8s_length1 _) (by decide)
      have hbS : ∀ p, hd g6 = some p → p.block ∉ bl (dRows gd gk gw cw sp D ++ ((gl1, 33, xs1 ++ sl1) :: (some gW, 38, wv) :: R)) := apart_new H8 Hd (i := 0) rfl
      have Hs := (H8.here.call0 Hd).less
      replace hWr := hWr.move fun _ _ h => h.to Hs
      replace hL := hL.to Hs
      have hbL : 0 < ((dataOf mo[q].m mo[q].x)).length → Lst w9 (dRows gd gk gw cw sp D ++ ((gl1, 33, xs1 ++ sl1) :: (some gW, 38, wv) :: R)) [.slice (hd g6) ((dataOf mo[q].m mo[q].x)).length c6] [(dataOf mo[q].m mo[q].x)] := fun h => Lst.one h hbR hbS
      have H9 := (H8.call0 Hd).less
      refine ops_val (ex_assign rfl) ?_
      refine ops_nil ?_
      change Run _ _ _ _ [_, _, _, _, _, _, _, _, _, _, _, _, _, _, _, _, _, _, _, _, _, _, _, _, _, _, _, _, _, _, _, _, _, _, _, _, _, _, _, _, _, _, _, _, _, _, _, _, _, _, _, _, _, _, _, _, _, _, _, _, _, _, _, _, _, _, _, _, _, _, _, _, _, _, _, _, _, _, _, _, _, _, _, _, _, _, _, _, _, _, _, _, _, _, _, _, _, _, _, _, _, _, _, _, _, _, _, _, _, _, _, _, _, _, _, _, _, _, _, _, _, _, _, _, _, _, _, _, _, _, _, _, _, _, _, _, _, _, _, _, _, _, _, _, _, _, _, _, _, _, _, _, _, _, _, _, _, _, _, _, _, _, _, _, _, _, _, _] _
      refine run_seq ?_
      refine run_region ?_
      refine ops_val (ex_move rfl) ?_
      refine ops_val (ex_move rfl) ?_
      refine ops_val (ex_move rfl) ?_
      refine ops_val (ex_idxN Try.underlying22 ty45 rfl rfl rfl hql) ?_
      change Ops _ _ _ _ _ _ [_, _, _, _, _, _, _, _, _, _, _, _, _, _, _, _, _, _, _, _, _, _, _, _, _, _, _, _, _, _, _, _, _, _, _, _, _, _, _, _, _, _, _, _, _, _, _, _, _, _, _, _, _, _, _, _, _, _, _, _, _, _, _, _, _, _, _, _, _, _, _, _, _, _, _, _, _, _, _, _, _, _, _, _, _, _, _, _, _, _, _, _, _, _, _, _, _, _, _, _, _, _, _, _, _, _, _, _, _, _, _, _, _, _, _, _, _, _, _, _, _, _, _, _, _, _, _, _, _, _, _, _, _, _, _, _, _, _, _, _, _, _, _, _, _, _, _, _, _, _, _, _, _, _, _, _, _, _, _, _, _, _, _, _, _, _, _, _] _
      refine ops_val (ex_fieldAddr fl45_1 rfl) ?_
      refine ops_val (ex_load ty3 rfl (op_at (hsr.to0 H9) hql (j := 1) rfl)) ?_
      refine ops_val (ex_move rfl) ?_
      have hk := write_any gd gk gw cw sp D _ (H9.pick [0, 1, 2] (by decide)).here hO mo[q].a (hd g6) (dataOf mo[q].m mo[q].x) c6 hbR (fun p hp hb => hbS p hp (bl_left hb)) hwm
      refine ops_call_val (ex_call gf13 rfl) hk ?_
      intro w10 ⟨gw, cw, sp, hO2, Hd⟩
      have H10 := H9.front Hd
      replace hbL := fun h => (hbL h).front Hd
      replace hWr := hWr.move fun _ _ h => h.front Hd
      replace hL := hL.front Hd
      change Ops _ _ _ _ _ _ [_, _, _, _, _, _, _, _, _, _, _, _, _, _, _, _, _, _, _, _, _, _, _, _, _, _, _, _, _, _, _, _, _, _, _, _, _, _, _, _, _, _, _, _, _, _, _, _, _, _, _, _, _, _, _, _, _, _, _, _, _, _, _, _, _, _, _, _, _, _, _, _, _, _, _, _, _, _, _, _, _, _, _, _, _, _, _, _, _, _, _, _, _, _, _, _, _, _, _, _, _, _, _, _, _, _, _, _, _, _, _, _, _, _, _, _, _, _, _, _, _, _, _, _, _, _, _, _, _, _, _, _, _, _, _, _, _, _, _, _, _, _, _, _, _, _, _, _, _, _, _, _, _, _, _, _, _, _, _, _, _, _, _, _, _, _, _, _] _
      refine ops_test (ex_eql rfl rfl) (fun hp59 => ?_) (fun hp59 => ?_)
      · obtain ⟨n0, ha0, hn0, hb64, hwr⟩ := write_done (D := D) (a := mo[q].a) (b := (dataOf mo[q].m mo[q].x)) hdn har (by omega)
        rw [hwr] at hO2 H10 hWr hL hbL
        have hn1 : n0 < E0.kept.length := by rw [← hkp2]; exact hn0
        obtain ⟨g, c, xs, sq, hR1, hR2, hR3, hR4, hR5, hR6⟩ := hWr.each n0 hn1
        have hxl := hR6.1
        have hlr := hWr.lr
        have hlc := hWr.lc
        have hWm := Wof_most D.wait n0
        have HB := H10
        replace H10 := HB.here
        refine ops_nil ?_
        change Run _ _ _ _ [_, _, _, _, _, _, _, _, _, _, _, _, _, _, _, _, _, _, _, _, _, _, _, _, _, _, _, _, _, _, _, _, _, _, _, _, _, _, _, _, _, _, _, _, _, _, _, _, _, _, _, _, _, _, _, _, _, _, _, _, _, _, _, _, _, _, _, _, _, _, _, _, _, _, _, _, _, _, _, _, _, _, _, _, _, _, _, _, _, _, _, _, _, _, _, _, _, _, _, _, _, _, _, _, _, _, _, _, _, _, _, _, _, _, _, _, _, _, _, _, _, _, _, _, _, _, _, _, _, _, _, _, _, _, _, _, _, _, _, _, _, _, _, _, _, _, _, _, _, _, _, _, _, _, _, _, _, _, _, _, _, _, _, _, _, _, _, _] _
        refine run_cond_true rfl ?_
        refine run_mixZ 18 [(true, 0), (true, 1), (true, 2), (true, 3), (true, 4), (true, 5), (true, 6), (true, 7), (true, 8), (true, 9), (true, 10), (true, 11), (true, 12), (true, 13), (true, 14), (false, 15), (false, 16), (true, 17), (false, 18)] H10 [4] mixed (by decide) (by kernel_rfl) ?_
        rintro w11 hw11
        have H11 := Hp.drew H10; rw [← hw11] at H11
        refine mixz_p rfl ?_
        refine mix1_val (fun wz hz => ex_move rfl) ?_
        refine mixz_p rfl ?_
        refine mix1_val (fun wz hz => ex_move rfl) ?_
        refine mixz_p rfl ?_
        refine mix1_val (fun wz hz => ex_move rfl) ?_
        refine mixz_p rfl ?_
        refine mix1_val (fun wz hz => ex_idxN Try.underlying22 ty45 rfl rfl rfl hql) ?_
        change MixZ _ _ _ _ _ _ [_, _, _, _, _, _, _, _, _, _, _, _, _, _, _, _, _, _, _, _, _, _, _, _, _, _, _, _, _, _, _, _, _, _, _, _, _, _, _, _, _, _, _, _, _, _, _, _, _, _, _, _, _, _, _, _, _, _, _, _, _, _, _, _, _, _, _, _, _, _, _, _, _, _, _, _, _, _, _, _, _, _, _, _, _, _, _, _, _, _, _, _, _, _, _, _, _, _, _, _, _, _, _, _, _, _, _, _, _, _, _, _, _, _, _, _, _, _, _, _, _, _, _, _, _, _, _, _, _, _, _, _, _, _, _, _, _, _, _, _, _, _, _, _, _, _, _, _, _, _, _, _, _, _, _, _, _, _, _, _, _, _, _, _, _, _, _, _] _
        refine mixz_p rfl ?_
        refine mix1_val (fun wz hz => ex_fieldAddr fl45_1 rfl) ?_
        refine mixz_p rfl ?_
        refine mix1_val (fun wz hz => ex_load ty3 rfl (op_at (hsr.to0 (HB.all hz)) hql (j := 1) rfl)) ?_
        refine mixz_p rfl ?_
        refine mix1_val (fun wz hz => ex_move rfl) ?_
        refine mixz_p rfl ?_
        refine mix1_val (fun wz hz => ex_move rfl) ?_
        change MixZ _ _ _ _ _ _ [_, _, _, _, _, _, _, _, _, _, _, _, _, _, _, _, _, _, _, _, _, _, _, _, _, _, _, _, _, _, _, _, _, _, _, _, _, _, _, _, _, _, _, _, _, _, _, _, _, _, _, _, _, _, _, _, _, _, _, _, _, _, _, _, _, _, _, _, _, _, _, _, _, _, _, _, _, _, _, _, _, _, _, _, _, _, _, _, _, _, _, _, _, _, _, _, _, _, _, _, _, _, _, _, _, _, _, _, _, _, _, _, _, _, _, _, _, _, _, _, _, _, _, _, _, _, _, _, _, _, _, _, _, _, _, _, _, _, _, _, _, _, _, _, _, _, _, _, _, _, _, _, _, _, _, _, _, _, _, _, _, _, _, _, _, _, _, _] _
        refine mixz_p rfl ?_
        refine mix1_val (fun wz hz => ex_move rfl) ?_
        refine mixz_p rfl ?_
        refine mix1_val (fun wz hz => ex_idxN Try.underlying22 ty45 rfl rfl rfl hql) ?_
        refine mixz_p rfl ?_
        refine mix1_val (fun wz hz => ex_fieldAddr fl45_1 rfl) ?_
        refine mixz_p rfl ?_
        refine mix1_val (fun wz hz => ex_load ty3 rfl (op_at (hsr.to0 (HB.all hz)) hql (j := 1) rfl)) ?_
        change MixZ _ _ _ _ _ _ [_, _, _, _, _, _, _, _, _, _, _, _, _, _, _, _, _, _, _, _, _, _, _, _, _, _, _, _, _, _, _, _, _, _, _, _, _, _, _, _, _, _, _, _, _, _, _, _, _, _, _, _, _, _, _, _, _, _, _, _, _, _, _, _, _, _, _, _, _, _, _, _, _, _, _, _, _, _, _, _, _, _, _, _, _, _, _, _, _, _, _, _, _, _, _, _, _, _, _, _, _, _, _, _, _, _, _, _, _, _, _, _, _, _, _, _, _, _, _, _, _, _, _, _, _, _, _, _, _, _, _, _, _, _, _, _, _, _, _, _, _, _, _, _, _, _, _, _, _, _, _, _, _, _, _, _, _, _, _, _, _, _, _, _, _, _, _, _] _
        refine mixz_p rfl ?_
        refine mix1_val (fun wz hz => ex_idxN Try.underlying43 ty38 rfl rfl ha0 hn1) ?_
        refine mixz_p rfl ?_
        refine mix1_val (fun wz hz => ex_load ty38 rfl (hz.cell (i := 0) rfl (by rw [Nat.mul_one, Nat.zero_add]; exact hR2))) ?_
        refine mixz_p rfl ?_
        refine mix1_val (fun wz hz => ex_move rfl) ?_
        refine mixz_o rfl ?_
        refine ops_buildSlice Try.underlying38 ty33 H11 (cs := [.slice (hd g6) ((dataOf mo[q].m mo[q].x)).length c6]) rfl (by decide) rfl ?_
        intro w12 gb H12 hgb
        refine ops_nil ?_
        refine ⟨fun hne => H12.pick [4] (by decide), ?_⟩
        change MixZ _ _ _ _ _ _ [_, _, _, _, _, _, _, _, _, _, _, _, _, _, _, _, _, _, _, _, _, _, _, _, _, _, _, _, _, _, _, _, _, _, _, _, _, _, _, _, _, _, _, _, _, _, _, _, _, _, _, _, _, _, _, _, _, _, _, _, _, _, _, _, _, _, _, _, _, _, _, _, _, _, _, _, _, _, _, _, _, _, _, _, _, _, _, _, _, _, _, _, _, _, _, _, _, _, _, _, _, _, _, _, _, _, _, _, _, _, _, _, _, _, _, _, _, _, _, _, _, _, _, _, _, _, _, _, _, _, _, _, _, _, _, _, _, _, _, _, _, _, _, _, _, _, _, _, _, _, _, _, _, _, _, _, _, _, _, _, _, _, _, _, _, _, _, _] _
        refine mixz_o rfl ?_
        refine ops_append Try.underlying38 ty33 (by decide) H12 (n0 + 5) (g := g) (xs := xs) (sp := sq) rfl (show (R ++ [(some gb, 33, [Value.slice (hd g6) ((dataOf mo[q].m mo[q].x)).length c6])])[n0]? = _ from by rw [List.getElem?_append_left (by omega)]; exact hR1) (by rw [hxl, Nat.mul_one]) (by omega) hR3 hR5 rfl (H12.rd (i := R.length + 5) (o := some gb) (xs := [.slice (hd g6) ((dataOf mo[q].m mo[q].x)).length c6]) (sp := []) (n := 1) (sz := 1) (show (R ++ [(some gb, 33, [Value.slice (hd g6) ((dataOf mo[q].m mo[q].x)).length c6])])[R.length]? = _ from by rw [List.getElem?_append_right (Nat.le_refl _), Nat.sub_self]; rfl) rfl (by decide)) rfl (by omega) (by omega) (by decide) ?_
        intro w13 g3 cap3 sp3 H13 hcap3 hmc3 hg3
        refine ops_nil ?_
        refine ⟨fun hne => H13.pick [4] (by decide), ?_⟩
        change MixZ _ _ _ _ _ _ [_, _, _, _, _, _, _, _, _, _, _, _, _, _, _, _, _, _, _, _, _, _, _, _, _, _, _, _, _, _, _, _, _, _, _, _, _, _, _, _, _, _, _, _, _, _, _, _, _, _, _, _, _, _, _, _, _, _, _, _, _, _, _, _, _, _, _, _, _, _, _, _, _, _, _, _, _, _, _, _, _, _, _, _, _, _, _, _, _, _, _, _, _, _, _, _, _, _, _, _, _, _, _, _, _, _, _, _, _, _, _, _, _, _, _, _, _, _, _, _, _, _, _, _, _, _, _, _, _, _, _, _, _, _, _, _, _, _, _, _, _, _, _, _, _, _, _, _, _, _, _, _, _, _, _, _, _, _, _, _, _, _, _, _, _, _, _, _] _
        refine mixz_p rfl ?_
        refine mix1_val (fun wz hz => ex_idxN Try.underlying43 ty38 rfl rfl ha0 hn1) ?_
        refine mixz_o rfl ?_
        refine ops_store1 ty38 H13 4 rfl rfl rfl rfl (by rw [hlc]; omega) rfl ?_
        intro w14 H14
        refine ops_nil ?_
        refine ⟨fun hne => absurd rfl hne, ?_⟩
        change MixZ _ _ _ _ _ _ [_, _, _, _, _, _, _, _, _, _, _, _, _, _, _, _, _, _, _, _, _, _, _, _, _, _, _, _, _, _, _, _, _, _, _, _, _, _, _, _, _, _, _, _, _, _, _, _, _, _, _, _, _, _, _, _, _, _, _, _, _, _, _, _, _, _, _, _, _, _, _, _, _, _, _, _, _, _, _, _, _, _, _, _, _, _, _, _, _, _, _, _, _, _, _, _, _, _, _, _, _, _, _, _, _, _, _, _, _, _, _, _, _, _, _, _, _, _, _, _, _, _, _, _, _, _, _, _, _, _, _, _, _, _, _, _, _, _, _, _, _, _, _, _, _, _, _, _, _, _, _, _, _, _, _, _, _, _, _, _, _, _, _, _, _, _, _, _] _
        refine mixz_nil ?_
        change Run _ _ _ _ [_, _, _, _, _, _, _, _, _, _, _, _, _, _, _, _, _, _, _, _, _, _, _, _, _, _, _, _, _, _, _, _, _, _, _, _, _, _, _, _, _, _, _, _, _, _, _, _, _, _, _, _, _, _, _, _, _, _, _, _, _, _, _, _, _, _, _, _, _, _, _, _, _, _, _, _, _, _, _, _, _, _, _, _, _, _, _, _, _, _, _, _, _, _, _, _, _, _, _, _, _, _, _, _, _, _, _, _, _, _, _, _, _, _, _, _, _, _, _, _, _, _, _, _, _, _, _, _, _, _, _, _, _, _, _, _, _, _, _, _, _, _, _, _, _, _, _, _, _, _, _, _, _, _, _, _, _, _, _, _, _, _, _, _, _, _, _, _] _
        refine run_nil (blk_normal ?_)
        refine run_region ?_
        refine ops_val (ex_move rfl) ?_
        refine ops_val (ex_add rfl rfl (IntWalk.i64_in _ (by omega))) ?_
        refine ops_val (ex_assign rfl) ?_
        refine ops_nil ?_
        change Run _ _ _ _ [_, _, _, _, _, _, _, _, _, _, _, _, _, _, _, _, _, _, _, _, _, _, _, _, _, _, _, _, _, _, _, _, _, _, _, _, _, _, _, _, _, _, _, _, _, _, _, _, _, _, _, _, _, _, _, _, _, _, _, _, _, _, _, _, _, _, _, _, _, _, _, _, _, _, _, _, _, _, _, _, _, _, _, _, _, _, _, _, _, _, _, _, _, _, _, _, _, _, _, _, _, _, _, _, _, _, _, _, _, _, _, _, _, _, _, _, _, _, _, _, _, _, _, _, _, _, _, _, _, _, _, _, _, _, _, _, _, _, _, _, _, _, _, _, _, _, _, _, _, _, _, _, _, _, _, _, _, _, _, _, _, _, _, _, _, _, _, _] _
        refine run_nil (rnd_normal ?_)
        rw [Nat.mul_one, Nat.zero_add] at H14
        have eR : (R ++ [(some gb, 33, [Value.slice (hd g6) ((dataOf mo[q].m mo[q].x)).length c6])]).set n0 (g3, 33, (xs ++ [Value.slice (hd g6) ((dataOf mo[q].m mo[q].x)).length c6]) ++ sp3) = R.set n0 (g3, 33, (xs ++ [Value.slice (hd g6) ((dataOf mo[q].m mo[q].x)).length c6]) ++ sp3) ++ [(some gb, 33, [Value.slice (hd g6) ((dataOf mo[q].m mo[q].x)).length c6])] := List.set_append_left _ _ (by omega)
        have HN : ∀ (wb : World) (SS : List Nat), Hp wb w14 SS (dRows gd gk gw cw sp (D.put n0 (dataOf mo[q].m mo[q].x)) ++ ((gl1, 33, xs1 ++ sl1) :: (some gW, 38, wv.set n0 (.slice (hd g3) ((Wof D.wait n0).length + 1) cap3)) :: (R ++ [(some gb, 33, [Value.slice (hd g6) ((dataOf mo[q].m mo[q].x)).length c6])]).set n0 (g3, 33, (xs ++ [Value.slice (hd g6) ((dataOf mo[q].m mo[q].x)).length c6]) ++ sp3))) → Hp wb w14 SS (dRows gd gk gw cw sp (D.put n0 (dataOf mo[q].m mo[q].x)) ++ ((gl1, 33, xs1 ++ sl1) :: (some gW, 38, (wv.set n0 (.slice (hd g3) ((Wof D.wait n0).length + 1) cap3))) :: (R.set n0 (g3, 33, (xs ++ [Value.slice (hd g6) ((dataOf mo[q].m mo[q].x)).length c6]) ++ sp3)))) := by
          intro wb SS h
          rw [eR] at h
          exact Hp.less (R := [(some gb, 33, [Value.slice (hd g6) ((dataOf mo[q].m mo[q].x)).length c6])]) h
        replace HN := HN _ _ H14
        refine ⟨mo.length - (q + 1), by omega, q + 1, _, gw, cw, sp, D.put n0 (dataOf mo[q].m mo[q].x), wv.set n0 (.slice (hd g3) ((Wof D.wait n0).length + 1) cap3), R.set n0 (g3, 33, (xs ++ [Value.slice (hd g6) ((dataOf mo[q].m mo[q].x)).length c6]) ++ sp3), rfl, (fn (fn (fs (fs (fn (fn (fn (fn (fn (fs (fs (fs (fs (fn (fn (fn (fn (fn (fn (fn (fn (fn (fn (fn (fn (fn (fn (fn (fn (fn (fn (fn (fn (fn (fn (fn (fn (fn (fn (fn (fn (fn (fn (fn (fn (fn (fn (fn (fn (fn (fn (fn (fn (fn (fn (fn (fn (fn (fn (fn (fn (fn (fn (fn (fn (fn (fn (fn (fn (fn (fn (fn (fn (fn (fn (fn (fn (fn (fn (fn (fn (fn (fn (fn (fn (fn (fn (fn (fn (fn (fn (fn (fn (fn (fn (fn (fn (fn (fn (fn (fn (fn (fn (fn (fn (fn (fn (fn (fn (fn (fn (fn (fn (fn (fn (fn (fn (fn (fn (fn (fn (fn (fn (fn (fn (fn (fn (fn (fn (fn (fn (fn (fn (fn (fn (fn (fn (fn (fn (fn (fn (fn (fn (fn (fn (fn (fn (fn (fn (fn (fn (fn (fn (fn (fn (fn (fn (fn (fn (fn (fn (fn (fn (fn (fn (fn (fn (fn f0)))))))))))))))))))))))))))))))))))))))))))))))))))))))))))))))))))))))))))))))))))))))))))))))))))))))))))))))))))))))))))))))))))))))))))))))))))))))))))))))))))))))), rfl, by omega, hO2, hdn, har, hkp2, by simp [Dk.put]; omega, ?_, hL.to HN, HB.all HN⟩
        exact hWr.put (fun _ _ h => h.to HN) hn1 ((hR6.to HN).app ((hbL (by omega)).to HN)) hmc3 (by omega) hg3 (Wof_self _ _ _) (Wof_other _ _ _)
      · have hwr := write_not (D := D) (a := mo[q].a) (b := (dataOf mo[q].m mo[q].x)) hdn har (by omega)
        rw [hwr] at hO2 H10 hWr hL
        refine ops_nil ?_
        change Run _ _ _ _ [_, _, _, _, _, _, _, _, _, _, _, _, _, _, _, _, _, _, _, _, _, _, _, _, _, _, _, _, _, _, _, _, _, _, _, _, _, _, _, _, _, _, _, _, _, _, _, _, _, _, _, _, _, _, _, _, _, _, _, _, _, _, _, _, _, _, _, _, _, _, _, _, _, _, _, _, _, _, _, _, _, _, _, _, _, _, _, _, _, _, _, _, _, _, _, _, _, _, _, _, _, _, _, _, _, _, _, _, _, _, _, _, _, _, _, _, _, _, _, _, _, _, _, _, _, _, _, _, _, _, _, _, _, _, _, _, _, _, _, _, _, _, _, _, _, _, _, _, _, _, _, _, _, _, _, _, _, _, _, _, _, _, _, _, _, _, _, _] _
        refine run_cond_false rfl ?_
        refine run_skip ?_
        refine run_nil (blk_normal ?_)
        refine run_region ?_
        refine ops_val (ex_move rfl) ?_
        refine ops_val (ex_add rfl rfl (IntWalk.i64_in _ (by omega))) ?_
        refine ops_val (ex_assign rfl) ?_
        refine ops_nil ?_
        change Run _ _ _ _ [_, _, _, _, _, _, _, _, _, _, _, _, _, _, _, _, _, _, _, _, _, _, _, _, _, _, _, _, _, _, _, _, _, _, _, _, _, _, _, _, _, _, _, _, _, _, _, _, _, _, _, _, _, _, _, _, _, _, _, _, _, _, _, _, _, _, _, _, _, _, _, _, _, _, _, _, _, _, _, _, _, _, _, _, _, _, _, _, _, _, _, _, _, _, _, _, _, _, _, _, _, _, _, _, _, _, _, _, _, _, _, _, _, _, _, _, _, _, _, _, _, _, _, _, _, _, _, _, _, _, _, _, _, _, _, _, _, _, _, _, _, _, _, _, _, _, _, _, _, _, _, _, _, _, _, _, _, _, _, _, _, _, _, _, _, _, _, _] _
        refine run_nil (rnd_normal ?_)
        exact ⟨mo.length - (q + 1), by omega, q + 1, _, gw, cw, sp, D, wv, R, rfl, (fn (fn (fs (fs (fn (fn (fn (fn (fn (fs (fs (fs (fs (fn (fn (fn (fn (fn (fn (fn (fn (fn (fn (fn (fn (fn (fn (fn (fn (fn (fn (fn (fn (fn (fn (fn (fn (fn (fn (fn (fn (fn (fn (fn (fn (fn (fn (fn (fn (fn (fn (fn (fn (fn (fn (fn (fn (fn (fn (fn (fn (fn (fn (fn (fn (fn (fn (fn (fn (fn (fn (fn (fn (fn (fn (fn (fn (fn (fn (fn (fn (fn (fn (fn (fn (fn (fn (fn (fn (fn (fn (fn (fn (fn (fn (fn (fn (fn (fn (fn (fn (fn (fn (fn (fn (fn (fn (fn (fn (fn (fn (fn (fn (fn (fn (fn (fn (fn (fn (fn (fn (fn (fn (fn (fn (fn (fn (fn (fn (fn (fn (fn (fn (fn (fn (fn (fn (fn (fn (fn (fn (fn (fn (fn (fn (fn (fn (fn (fn (fn (fn (fn (fn (fn (fn (fn (fn (fn (fn (fn (fn (fn (fn (fn (fn (fn (fn (fn f0)))))))))))))))))))))))))))))))))))))))))))))))))))))))))))))))))))))))))))))))))))))))))))))))))))))))))))))))))))))))))))))))))))))))))))))))))))))))))))))))))))))))), rfl, by omega, hO2, hdn, har, hkp2, by omega, hWr, hL, H10⟩
    · skip
      refine ops_nil ?_
      change Run _ _ _ _ [_, _, _, _, _, _, _, _, _, _, _, _, _, _, _, _, _, _, _, _, _, _, _, _, _, _, _, _, _, _, _, _, _, _, _, _, _, _, _, _, _, _, _, _, _, _, _, _, _, _, _, _, _, _, _, _, _, _, _, _, _, _, _, _, _, _, _, _, _, _, _, _, _, _, _, _, _, _, _, _, _, _, _, _, _, _, _, _, _, _, _, _, _, _, _, _, _, _, _, _, _, _, _, _, _, _, _, _, _, _, _, _, _, _, _, _, _, _, _, _, _, _, _, _, _, _, _, _, _, _, _, _, _, _, _, _, _, _, _, _, _, _, _, _, _, _, _, _, _, _, _, _, _, _, _, _, _, _, _, _, _, _, _, _, _, _, _, _] _
      refine run_cond_false rfl ?_
      refine run_exit ?_
      refine rnd_exit ?_
      refine blk_exit ?_
      refine run_seq ?_
      refine run_seq ?_
      refine run_region ?_
      refine ops_val (ex_move rfl) ?_
      refine ops_val (ex_move rfl) ?_
      have hwm3 : D.wait.length ≤ 2513174816128 := by have := hs2.most; omega
      have hw64 : ∀ p ∈ D.wait, p.2.length = 64 ∧ p.1 < E0.kept.length := fun p hp => by rw [← hkp2]; exact hO.w64 p hp
      have hk64 : ∀ b ∈ E0.kept, b.length = 64 := by rw [← hkp2]; exact hO.k64
      have hk := crash_any gd gk gw cw sp D _ (H8.pick [0, 1, 2] (by decide)).here hO B keep kc_ (hkp.to0 H8) (fun hk => sep_old (H8.pick [0, 1, 2] (by decide)) hkp hk) (by have := hs2.most; omega)
      refine ops_call_val (ex_call gf20 rfl) hk ?_
      intro w9 ⟨gw, cw, sp, hO, Hd⟩
      have H9 := H8.front Hd
      replace hWr := hWr.move fun _ _ h => h.front Hd
      replace hL := hL.front Hd
      have hg1 : (D.crash keep).kept = tears E0.kept D.wait keep D.wait.length := by rw [← hkp2]; rfl
      have hg2 : (D.crash keep).wait = [] := rfl
      have hg3 : (D.crash keep).down = true := rfl
      generalize D.wait = ws at *
      generalize D.crash keep = D5 at *
      refine ops_false (ex_neq rfl rfl) (by simp) ?_
      change Ops _ _ _ _ _ _ [_, _, _, _, _, _, _, _, _, _, _, _, _, _, _, _, _, _, _, _, _, _, _, _, _, _, _, _, _, _, _, _, _, _, _, _, _, _, _, _, _, _, _, _, _, _, _, _, _, _, _, _, _, _, _, _, _, _, _, _, _, _, _, _, _, _, _, _, _, _, _, _, _, _, _, _, _, _, _, _, _, _, _, _, _, _, _, _, _, _, _, _, _, _, _, _, _, _, _, _, _, _, _, _, _, _, _, _, _, _, _, _, _, _, _, _, _, _, _, _, _, _, _, _, _, _, _, _, _, _, _, _, _, _, _, _, _, _, _, _, _, _, _, _, _, _, _, _, _, _, _, _, _, _, _, _, _, _, _, _, _, _, _, _, _, _, _, _] _
      refine ops_val (ex_move rfl) ?_
      refine ops_yes rfl ?_
      refine ops_val (ex_move rfl) ?_
      change Ops _ _ _ _ _ _ [_, _, _, _, _, _, _, _, _, _, _, _, _, _, _, _, _, _, _, _, _, _, _, _, _, _, _, _, _, _, _, _, _, _, _, _, _, _, _, _, _, _, _, _, _, _, _, _, _, _, _, _, _, _, _, _, _, _, _, _, _, _, _, _, _, _, _, _, _, _, _, _, _, _, _, _, _, _, _, _, _, _, _, _, _, _, _, _, _, _, _, _, _, _, _, _, _, _, _, _, _, _, _, _, _, _, _, _, _, _, _, _, _, _, _, _, _, _, _, _, _, _, _, _, _, _, _, _, _, _, _, _, _, _, _, _, _, _, _, _, _, _, _, _, _, _, _, _, _, _, _, _, _, _, _, _, _, _, _, _, _, _, _, _, _, _, _, _] _
      refine ops_yes rfl ?_
      have hk := down_any gd gk gw cw sp D5 _ (H9.pick [0, 1, 2] (by decide)).here hO
      rw [hg3] at hk
      refine ops_call_val (ex_call gf23 rfl) hk ?_
      intro w10 Hd
      have H10 := H9.front Hd
      replace hWr := hWr.move fun _ _ h => h.front Hd
      replace hL := hL.front Hd
      refine ops_yes rfl ?_
      refine ops_val (ex_not rfl) ?_
      refine ops_val (ex_pick_f rfl rfl) ?_
      refine ops_val (ex_move rfl) ?_
      change Ops _ _ _ _ _ _ [_, _, _, _, _, _, _, _, _, _, _, _, _, _, _, _, _, _, _, _, _, _, _, _, _, _, _, _, _, _, _, _, _, _, _, _, _, _, _, _, _, _, _, _, _, _, _, _, _, _, _, _, _, _, _, _, _, _, _, _, _, _, _, _, _, _, _, _, _, _, _, _, _, _, _, _, _, _, _, _, _, _, _, _, _, _, _, _, _, _, _, _, _, _, _, _, _, _, _, _, _, _, _, _, _, _, _, _, _, _, _, _, _, _, _, _, _, _, _, _, _, _, _, _, _, _, _, _, _, _, _, _, _, _, _, _, _, _, _, _, _, _, _, _, _, _, _, _, _, _, _, _, _, _, _, _, _, _, _, _, _, _, _, _, _, _, _, _] _
      refine ops_yes rfl ?_
      refine ops_val (ex_move rfl) ?_
      refine ops_yes rfl ?_
      have hk := waiting_any gd gk gw cw sp D5 _ (H10.pick [0, 1, 2] (by decide)).here hO
      rw [hg2] at hk
      refine ops_call_val (ex_call gf18 rfl) hk ?_
      intro w11 Hd
      have H11 := H10.front Hd
      replace hWr := hWr.move fun _ _ h => h.front Hd
      replace hL := hL.front Hd
      change Ops _ _ _ _ _ _ [_, _, _, _, _, _, _, _, _, _, _, _, _, _, _, _, _, _, _, _, _, _, _, _, _, _, _, _, _, _, _, _, _, _, _, _, _, _, _, _, _, _, _, _, _, _, _, _, _, _, _, _, _, _, _, _, _, _, _, _, _, _, _, _, _, _, _, _, _, _, _, _, _, _, _, _, _, _, _, _, _, _, _, _, _, _, _, _, _, _, _, _, _, _, _, _, _, _, _, _, _, _, _, _, _, _, _, _, _, _, _, _, _, _, _, _, _, _, _, _, _, _, _, _, _, _, _, _, _, _, _, _, _, _, _, _, _, _, _, _, _, _, _, _, _, _, _, _, _, _, _, _, _, _, _, _, _, _, _, _, _, _, _, _, _, _, _, _] _
      refine ops_yes rfl ?_
      refine ops_false (ex_neq rfl rfl) (by simp) ?_
      refine ops_val (ex_pick_f rfl rfl) ?_
      refine ops_val (ex_move rfl) ?_
      change Ops _ _ _ _ _ _ [_, _, _, _, _, _, _, _, _, _, _, _, _, _, _, _, _, _, _, _, _, _, _, _, _, _, _, _, _, _, _, _, _, _, _, _, _, _, _, _, _, _, _, _, _, _, _, _, _, _, _, _, _, _, _, _, _, _, _, _, _, _, _, _, _, _, _, _, _, _, _, _, _, _, _, _, _, _, _, _, _, _, _, _, _, _, _, _, _, _, _, _, _, _, _, _, _, _, _, _, _, _, _, _, _, _, _, _, _, _, _, _, _, _, _, _, _, _, _, _, _, _, _, _, _, _, _, _, _, _, _, _, _, _, _, _, _, _, _, _, _, _, _, _, _, _, _, _, _, _, _, _, _, _, _, _, _, _, _, _, _, _, _, _, _, _, _, _] _
      refine ops_yes rfl ?_
      refine ops_val (ex_move rfl) ?_
      refine ops_yes rfl ?_
      have hk := start_any gd gk gw cw sp D5 _ (H11.pick [0, 1, 2] (by decide)).here hO
      refine ops_call_val (ex_call gf10 rfl) hk ?_
      intro w12 ⟨gw, cw, sp, hO, Hd⟩
      have H12 := H11.front Hd
      replace hWr := hWr.move fun _ _ h => h.front Hd
      replace hL := hL.front Hd
      have hdn2 := start_up D5
      have hi1 : D5.start.kept = tears E0.kept ws keep ws.length := by unfold Dk.start; rw [if_pos hg3]; exact hg1
      have hi2 : D5.start.wait = [] := by unfold Dk.start; rw [if_pos hg3]
      have hi3 : D5.start.wait.length = 0 := by rw [hi2]; rfl
      have hi4 : D5.start.kept.length = E0.kept.length := by rw [hi1, tears_length]
      generalize D5.start = D6 at *
      change Ops _ _ _ _ _ _ [_, _, _, _, _, _, _, _, _, _, _, _, _, _, _, _, _, _, _, _, _, _, _, _, _, _, _, _, _, _, _, _, _, _, _, _, _, _, _, _, _, _, _, _, _, _, _, _, _, _, _, _, _, _, _, _, _, _, _, _, _, _, _, _, _, _, _, _, _, _, _, _, _, _, _, _, _, _, _, _, _, _, _, _, _, _, _, _, _, _, _, _, _, _, _, _, _, _, _, _, _, _, _, _, _, _, _, _, _, _, _, _, _, _, _, _, _, _, _, _, _, _, _, _, _, _, _, _, _, _, _, _, _, _, _, _, _, _, _, _, _, _, _, _, _, _, _, _, _, _, _, _, _, _, _, _, _, _, _, _, _, _, _, _, _, _, _, _] _
      refine ops_yes rfl ?_
      refine ops_false (ex_neq rfl rfl) (by simp) ?_
      refine ops_val (ex_pick_f rfl rfl) ?_
      refine ops_nil ?_
      change Run _ _ _ _ [_, _, _, _, _, _, _, _, _, _, _, _, _, _, _, _, _, _, _, _, _, _, _, _, _, _, _, _, _, _, _, _, _, _, _, _, _, _, _, _, _, _, _, _, _, _, _, _, _, _, _, _, _, _, _, _, _, _, _, _, _, _, _, _, _, _, _, _, _, _, _, _, _, _, _, _, _, _, _, _, _, _, _, _, _, _, _, _, _, _, _, _, _, _, _, _, _, _, _, _, _, _, _, _, _, _, _, _, _, _, _, _, _, _, _, _, _, _, _, _, _, _, _, _, _, _, _, _, _, _, _, _, _, _, _, _, _, _, _, _, _, _, _, _, _, _, _, _, _, _, _, _, _, _, _, _, _, _, _, _, _, _, _, _, _, _, _, _] _
      refine run_cond_false rfl ?_
      refine run_skip ?_
      refine run_seq ?_
      refine run_region ?_
      refine ops_val (ex_move rfl) ?_
      have hk := all_any gd gk gw cw sp D6 _ (H12.pick [0, 1, 2] (by decide)).here hO hdn2 (by omega)
      rw [hi4] at hk
      refine ops_call (ex_call gf19 rfl) hk ?_
      rintro _ w13 ⟨gl2, cl2, sl2, xs2, rfl, hc2, hcc2, hL2, hFr2, Hd⟩
      have H13 : Hp w0 w13 [] (dRows gd gk gw cw sp D6 ++ ((gl2, 33, xs2 ++ sl2) :: ((gl1, 33, xs1 ++ sl1) :: (some gW, 38, wv) :: R))) := H12.front Hd
      replace hWr : Wr w13 (dRows gd gk gw cw sp D6 ++ ((gl2, 33, xs2 ++ sl2) :: ((gl1, 33, xs1 ++ sl1) :: (some gW, 38, wv) :: R))) _ _ _ _ := hWr.move fun _ _ h => h.front Hd
      replace hL : Lst w13 (dRows gd gk gw cw sp D6 ++ ((gl2, 33, xs2 ++ sl2) :: ((gl1, 33, xs1 ++ sl1) :: (some gW, 38, wv) :: R))) _ _ := hL.front Hd
      replace hL2 := hL2.less (es' := dRows gd gk gw cw sp D6) (fun b hb => bl_left hb)
      refine ops_val (ex_assign rfl) ?_
      refine ops_nil ?_
      change Run _ _ _ _ [_, _, _, _, _, _, _, _, _, _, _, _, _, _, _, _, _, _, _, _, _, _, _, _, _, _, _, _, _, _, _, _, _, _, _, _, _, _, _, _, _, _, _, _, _, _, _, _, _, _, _, _, _, _, _, _, _, _, _, _, _, _, _, _, _, _, _, _, _, _, _, _, _, _, _, _, _, _, _, _, _, _, _, _, _, _, _, _, _, _, _, _, _, _, _, _, _, _, _, _, _, _, _, _, _, _, _, _, _, _, _, _, _, _, _, _, _, _, _, _, _, _, _, _, _, _, _, _, _, _, _, _, _, _, _, _, _, _, _, _, _, _, _, _, _, _, _, _, _, _, _, _, _, _, _, _, _, _, _, _, _, _, _, _, _, _, _, _] _
      refine run_seq ?_
      refine run_seq ?_
      refine run_region ?_
      refine ops_val (ex_move rfl) ?_
      refine ops_val (ex_len_slice Try.underlying38 rfl) ?_
      refine ops_val (ex_move rfl) ?_
      refine ops_val (ex_len_slice Try.underlying38 rfl) ?_
      change Ops _ _ _ _ _ _ [_, _, _, _, _, _, _, _, _, _, _, _, _, _, _, _, _, _, _, _, _, _, _, _, _, _, _, _, _, _, _, _, _, _, _, _, _, _, _, _, _, _, _, _, _, _, _, _, _, _, _, _, _, _, _, _, _, _, _, _, _, _, _, _, _, _, _, _, _, _, _, _, _, _, _, _, _, _, _, _, _, _, _, _, _, _, _, _, _, _, _, _, _, _, _, _, _, _, _, _, _, _, _, _, _, _, _, _, _, _, _, _, _, _, _, _, _, _, _, _, _, _, _, _, _, _, _, _, _, _, _, _, _, _, _, _, _, _, _, _, _, _, _, _, _, _, _, _, _, _, _, _, _, _, _, _, _, _, _, _, _, _, _, _, _, _, _, _] _
      refine ops_false (ex_neq rfl rfl) (by simp) ?_
      refine ops_val (ex_move rfl) ?_
      change Ops _ _ _ _ _ _ [_, _, _, _, _, _, _, _, _, _, _, _, _, _, _, _, _, _, _, _, _, _, _, _, _, _, _, _, _, _, _, _, _, _, _, _, _, _, _, _, _, _, _, _, _, _, _, _, _, _, _, _, _, _, _, _, _, _, _, _, _, _, _, _, _, _, _, _, _, _, _, _, _, _, _, _, _, _, _, _, _, _, _, _, _, _, _, _, _, _, _, _, _, _, _, _, _, _, _, _, _, _, _, _, _, _, _, _, _, _, _, _, _, _, _, _, _, _, _, _, _, _, _, _, _, _, _, _, _, _, _, _, _, _, _, _, _, _, _, _, _, _, _, _, _, _, _, _, _, _, _, _, _, _, _, _, _, _, _, _, _, _, _, _, _, _, _, _] _
      refine ops_yes rfl ?_
      refine ops_val (ex_move rfl) ?_
      refine ops_yes rfl ?_
      refine ops_val (ex_len_slice Try.underlying38 rfl) ?_
      change Ops _ _ _ _ _ _ [_, _, _, _, _, _, _, _, _, _, _, _, _, _, _, _, _, _, _, _, _, _, _, _, _, _, _, _, _, _, _, _, _, _, _, _, _, _, _, _, _, _, _, _, _, _, _, _, _, _, _, _, _, _, _, _, _, _, _, _, _, _, _, _, _, _, _, _, _, _, _, _, _, _, _, _, _, _, _, _, _, _, _, _, _, _, _, _, _, _, _, _, _, _, _, _, _, _, _, _, _, _, _, _, _, _, _, _, _, _, _, _, _, _, _, _, _, _, _, _, _, _, _, _, _, _, _, _, _, _, _, _, _, _, _, _, _, _, _, _, _, _, _, _, _, _, _, _, _, _, _, _, _, _, _, _, _, _, _, _, _, _, _, _, _, _, _, _] _
      refine ops_yes rfl ?_
      refine ops_val (ex_move rfl) ?_
      refine ops_yes rfl ?_
      have hk := size_any gd gk gw cw sp D6 _ (H13.pick [0, 1, 2] (by decide)).here hO
      rw [hi4] at hk
      refine ops_call_val (ex_call gf12 rfl) hk ?_
      intro w14 Hd
      have H14 := H13.front Hd
      replace hWr := hWr.move fun _ _ h => h.front Hd
      replace hL := hL.front Hd
      replace hL2 := hL2.to Hd
      have h64a : ∀ i, i < E0.kept.length → (D6.show i).length = 64 := fun i hi => show_len hO (by rw [hi4]; exact hi)
      have hsl : (D6.shown E0.kept.length).length = E0.kept.length := by simp [Dk.shown]
      have hsl0 : (E0.shown E0.kept.length).length = E0.kept.length := by simp [Dk.shown]
      have hxl2 := hL2.1
      have hxl1 := hL.1
      have hKa := H14.rd (i := 3) (o := gl2) (xs := xs2) (sp := sl2) (n := E0.kept.length) (sz := 1) rfl (by rw [hL2.1, hsl, Nat.mul_one]) (by decide)
      have hKb := H14.rd (i := 4) (o := gl1) (xs := xs1) (sp := sl1) (n := E0.kept.length) (sz := 1) rfl (by rw [hL.1, hsl0, Nat.mul_one]) (by decide)
      have hKc := H14.rd (i := 5) (o := some gW) (xs := wv) (sp := []) (n := E0.kept.length) (sz := 1) (by rw [List.append_nil]; rfl) (by rw [hWr.lc, Nat.mul_one]) (by decide)
      have K : KR w14 (E0.kept.length) (hd gl2) (hd gl1) (hd (some gW)) D6.show E0.show (Wof ws) := by
        refine ⟨⟨xs2, hKa, fun i hi => hL2.shown h64a hi⟩, ⟨xs1, hKb, fun i hi => hL.shown h64b hi⟩, ⟨wv, hKc, fun i hi => ?_⟩⟩
        obtain ⟨g, c, xs, sq, q1, q2, q3, q4, q5, q6⟩ := hWr.each i hi
        exact ⟨hd g, c, xs, q2, H14.rd (i := i + 6) (o := g) (xs := xs) (sp := sq) (n := (Wof ws i).length) (sz := 1) q1 (by rw [q6.1, Nat.mul_one]) (by decide), fun x hx => q6.at (Wof_64 (fun p hp => (hw64 p hp).1) i) hx⟩
      have hlaw := fun i k => keeps_law (E0 := E0) (D6 := D6) (ws := ws) (keep := keep) hk64 hw64 hi1 hi2 hw0 i k
      have HZ := H14.pick [] (by decide)
      generalize hwX : w14 = wX at K HZ
      replace H14 : Hp wX wX [] [] := Hp.refl _
      clear hwX hWr hL hL2 hw64 hk64
      obtain ⟨ga, rfl⟩ := some_of hKa hNpos
      obtain ⟨gb, rfl⟩ := some_of hKb hNpos
      clear hKa hKb hKc
      obtain ⟨⟨xa, ha1, ha2⟩, ⟨xb, hb1, hb2⟩, ⟨xc, hc1_, hc2_⟩⟩ := K
      change Ops _ _ _ _ _ _ [_, _, _, _, _, _, _, _, _, _, _, _, _, _, _, _, _, _, _, _, _, _, _, _, _, _, _, _, _, _, _, _, _, _, _, _, _, _, _, _, _, _, _, _, _, _, _, _, _, _, _, _, _, _, _, _, _, _, _, _, _, _, _, _, _, _, _, _, _, _, _, _, _, _, _, _, _, _, _, _, _, _, _, _, _, _, _, _, _, _, _, _, _, _, _, _, _, _, _, _, _, _, _, _, _, _, _, _, _, _, _, _, _, _, _, _, _, _, _, _, _, _, _, _, _, _, _, _, _, _, _, _, _, _, _, _, _, _, _, _, _, _, _, _, _, _, _, _, _, _, _, _, _, _, _, _, _, _, _, _, _, _, _, _, _, _, _, _] _
      refine ops_yes rfl ?_
      refine ops_false (ex_neq rfl rfl) (by simp) ?_
      refine ops_val (ex_pick_f rfl rfl) ?_
      refine ops_nil ?_
      change Run _ _ _ _ [_, _, _, _, _, _, _, _, _, _, _, _, _, _, _, _, _, _, _, _, _, _, _, _, _, _, _, _, _, _, _, _, _, _, _, _, _, _, _, _, _, _, _, _, _, _, _, _, _, _, _, _, _, _, _, _, _, _, _, _, _, _, _, _, _, _, _, _, _, _, _, _, _, _, _, _, _, _, _, _, _, _, _, _, _, _, _, _, _, _, _, _, _, _, _, _, _, _, _, _, _, _, _, _, _, _, _, _, _, _, _, _, _, _, _, _, _, _, _, _, _, _, _, _, _, _, _, _, _, _, _, _, _, _, _, _, _, _, _, _, _, _, _, _, _, _, _, _, _, _, _, _, _, _, _, _, _, _, _, _, _, _, _, _, _, _, _, _] _
      refine run_cond_false rfl ?_
      refine run_skip ?_
      refine run_seq ?_
      refine run_seq ?_
      refine run_region ?_
      refine ops_val (ex_assign rfl) ?_
      refine ops_nil ?_
      change Run _ _ _ _ [_, _, _, _, _, _, _, _, _, _, _, _, _, _, _, _, _, _, _, _, _, _, _, _, _, _, _, _, _, _, _, _, _, _, _, _, _, _, _, _, _, _, _, _, _, _, _, _, _, _, _, _, _, _, _, _, _, _, _, _, _, _, _, _, _, _, _, _, _, _, _, _, _, _, _, _, _, _, _, _, _, _, _, _, _, _, _, _, _, _, _, _, _, _, _, _, _, _, _, _, _, _, _, _, _, _, _, _, _, _, _, _, _, _, _, _, _, _, _, _, _, _, _, _, _, _, _, _, _, _, _, _, _, _, _, _, _, _, _, _, _, _, _, _, _, _, _, _, _, _, _, _, _, _, _, _, _, _, _, _, _, _, _, _, _, _, _, _] _
      refine run_block ?_
      refine run_loop (fun n l w => ∃ (q : Nat) (y : Int), E0.kept.length - q = n ∧ Fits [none, none, none, none, none, none, none, none, none, none, some (.slice (hd (some gb)) E0.kept.length cl1), some (.slice (hd (some gW)) E0.kept.length E0.kept.length), none, none, some (.slice (hd (some ga)) E0.kept.length cl2), some (.int .i64 y), none, none, none, none, none, none, none, none, none, none, none, none, none, none, none, none, none, none, none, none, none, none, none, none, none, none, none, none, none, none, none, none, none, none, none, none, none, none, none, none, none, none, none, none, none, none, none, none, none, none, none, none, none, none, none, none, none, none, none, none, none, none, none, none, none, none, none, none, none, none, none, none, none, none, none, none, none, none, none, none, none, none, none, none, none, none, none, none, none, none, none, none, none, none, none, none, none, none, none, none, none, none, none, none, none, none, none, none, none, none, none, none, none, none, none, none, none, none, none, none, none, none, none, none, none, none, none, none, none, none, none, none, none, none, none, none, none, none, none, none, none, none, none, none, none, none, none, none, none, none, none, none] l ∧ y = q ∧ q ≤ E0.kept.length ∧ Hp wX w [] []) (E0.kept.length) ?_ ?_
      · exact ⟨0, _, rfl, (fn (fn (fn (fn (fn (fn (fn (fn (fn (fn (fs (fs (fn (fn (fs (fs (fn (fn (fn (fn (fn (fn (fn (fn (fn (fn (fn (fn (fn (fn (fn (fn (fn (fn (fn (fn (fn (fn (fn (fn (fn (fn (fn (fn (fn (fn (fn (fn (fn (fn (fn (fn (fn (fn (fn (fn (fn (fn (fn (fn (fn (fn (fn (fn (fn (fn (fn (fn (fn (fn (fn (fn (fn (fn (fn (fn (fn (fn (fn (fn (fn (fn (fn (fn (fn (fn (fn (fn (fn (fn (fn (fn (fn (fn (fn (fn (fn (fn (fn (fn (fn (fn (fn (fn (fn (fn (fn (fn (fn (fn (fn (fn (fn (fn (fn (fn (fn (fn (fn (fn (fn (fn (fn (fn (fn (fn (fn (fn (fn (fn (fn (fn (fn (fn (fn (fn (fn (fn (fn (fn (fn (fn (fn (fn (fn (fn (fn (fn (fn (fn (fn (fn (fn (fn (fn (fn (fn (fn (fn (fn (fn (fn (fn (fn (fn (fn (fn (fn f0)))))))))))))))))))))))))))))))))))))))))))))))))))))))))))))))))))))))))))))))))))))))))))))))))))))))))))))))))))))))))))))))))))))))))))))))))))))))))))))))))))))))), rfl, Nat.zero_le _, H14⟩
      · rintro n l w15 ⟨q, y, rfl, hfit, rfl, hq, H15⟩
        obtain ⟨j, rfl⟩ := hfit.open
        change Run _ _ _ _ [_, _, _, _, _, _, _, _, _, _, _, _, _, _, _, _, _, _, _, _, _, _, _, _, _, _, _, _, _, _, _, _, _, _, _, _, _, _, _, _, _, _, _, _, _, _, _, _, _, _, _, _, _, _, _, _, _, _, _, _, _, _, _, _, _, _, _, _, _, _, _, _, _, _, _, _, _, _, _, _, _, _, _, _, _, _, _, _, _, _, _, _, _, _, _, _, _, _, _, _, _, _, _, _, _, _, _, _, _, _, _, _, _, _, _, _, _, _, _, _, _, _, _, _, _, _, _, _, _, _, _, _, _, _, _, _, _, _, _, _, _, _, _, _, _, _, _, _, _, _, _, _, _, _, _, _, _, _, _, _, _, _, _, _, _, _, _, _] _
        clear hfit
        refine run_seq ?_
        refine run_seq ?_
        refine run_region ?_
        refine ops_val (ex_move rfl) ?_
        refine ops_val (ex_move rfl) ?_
        refine ops_val (ex_len_slice Try.underlying38 rfl) ?_
        refine ops_test (ex_lss rfl rfl) (fun hp114 => ?_) (fun hp114 => ?_)
        · have hql : q < E0.kept.length := by omega
          obtain ⟨pa, ka, hxa, hra, hla⟩ := ha2 q hql
          obtain ⟨pb, kb, hxb, hrb, hlb⟩ := hb2 q hql
          obtain ⟨G, kg, ys, hxc, hry, hrz⟩ := hc2_ q hql
          refine ops_nil ?_
          change Run _ _ _ _ [_, _, _, _, _, _, _, _, _, _, _, _, _, _, _, _, _, _, _, _, _, _, _, _, _, _, _, _, _, _, _, _, _, _, _, _, _, _, _, _, _, _, _, _, _, _, _, _, _, _, _, _, _, _, _, _, _, _, _, _, _, _, _, _, _, _, _, _, _, _, _, _, _, _, _, _, _, _, _, _, _, _, _, _, _, _, _, _, _, _, _, _, _, _, _, _, _, _, _, _, _, _, _, _, _, _, _, _, _, _, _, _, _, _, _, _, _, _, _, _, _, _, _, _, _, _, _, _, _, _, _, _, _, _, _, _, _, _, _, _, _, _, _, _, _, _, _, _, _, _, _, _, _, _, _, _, _, _, _, _, _, _, _, _, _, _, _, _] _
          refine run_cond_true rfl ?_
          refine run_skip ?_
          refine run_seq ?_
          refine run_block ?_
          refine run_seq ?_
          refine run_region ?_
          refine ops_val (ex_assign rfl) ?_
          refine ops_nil ?_
          change Run _ _ _ _ [_, _, _, _, _, _, _, _, _, _, _, _, _, _, _, _, _, _, _, _, _, _, _, _, _, _, _, _, _, _, _, _, _, _, _, _, _, _, _, _, _, _, _, _, _, _, _, _, _, _, _, _, _, _, _, _, _, _, _, _, _, _, _, _, _, _, _, _, _, _, _, _, _, _, _, _, _, _, _, _, _, _, _, _, _, _, _, _, _, _, _, _, _, _, _, _, _, _, _, _, _, _, _, _, _, _, _, _, _, _, _, _, _, _, _, _, _, _, _, _, _, _, _, _, _, _, _, _, _, _, _, _, _, _, _, _, _, _, _, _, _, _, _, _, _, _, _, _, _, _, _, _, _, _, _, _, _, _, _, _, _, _, _, _, _, _, _, _] _
          refine run_block ?_
          refine run_loop (fun n l w => ∃ (k : Nat) (z : Int), 64 - k = n ∧ Fits [none, none, none, none, none, none, none, none, none, none, some (.slice (hd (some gb)) E0.kept.length cl1), some (.slice (hd (some gW)) E0.kept.length E0.kept.length), none, none, some (.slice (hd (some ga)) E0.kept.length cl2), some (.int .i64 (q : Int)), some (.int .i64 z), none, none, none, none, none, none, none, none, none, none, none, none, none, none, none, none, none, none, none, none, none, none, none, none, none, none, none, none, none, none, none, none, none, none, none, none, none, none, none, none, none, none, none, none, none, none, none, none, none, none, none, none, none, none, none, none, none, none, none, none, none, none, none, none, none, none, none, none, none, none, none, none, none, none, none, none, none, none, none, none, none, none, none, none, none, none, none, none, none, none, none, none, none, none, none, none, none, none, none, none, none, none, none, none, none, none, none, none, none, none, none, none, none, none, none, none, none, none, none, none, none, none, none, none, none, none, none, none, none, none, none, none, none, none, none, none, none, none, none, none, none, none, none, none, none, none, none, none, none, none, none] l ∧ z = k ∧ k ≤ 64 ∧ Hp wX w [] []) (64) ?_ ?_
          · exact ⟨0, _, rfl, (fn (fn (fn (fn (fn (fn (fn (fn (fn (fn (fs (fs (fn (fn (fs (fs (fs (fn (fn (fn (fn (fn (fn (fn (fn (fn (fn (fn (fn (fn (fn (fn (fn (fn (fn (fn (fn (fn (fn (fn (fn (fn (fn (fn (fn (fn (fn (fn (fn (fn (fn (fn (fn (fn (fn (fn (fn (fn (fn (fn (fn (fn (fn (fn (fn (fn (fn (fn (fn (fn (fn (fn (fn (fn (fn (fn (fn (fn (fn (fn (fn (fn (fn (fn (fn (fn (fn (fn (fn (fn (fn (fn (fn (fn (fn (fn (fn (fn (fn (fn (fn (fn (fn (fn (fn (fn (fn (fn (fn (fn (fn (fn (fn (fn (fn (fn (fn (fn (fn (fn (fn (fn (fn (fn (fn (fn (fn (fn (fn (fn (fn (fn (fn (fn (fn (fn (fn (fn (fn (fn (fn (fn (fn (fn (fn (fn (fn (fn (fn (fn (fn (fn (fn (fn (fn (fn (fn (fn (fn (fn (fn (fn (fn (fn (fn (fn (fn (fn f0)))))))))))))))))))))))))))))))))))))))))))))))))))))))))))))))))))))))))))))))))))))))))))))))))))))))))))))))))))))))))))))))))))))))))))))))))))))))))))))))))))))))), rfl, by omega, H15⟩
          · rintro n l w16 ⟨k, z, rfl, hfit, rfl, hk, H16⟩
            obtain ⟨j, rfl⟩ := hfit.open
            change Run _ _ _ _ [_, _, _, _, _, _, _, _, _, _, _, _, _, _, _, _, _, _, _, _, _, _, _, _, _, _, _, _, _, _, _, _, _, _, _, _, _, _, _, _, _, _, _, _, _, _, _, _, _, _, _, _, _, _, _, _, _, _, _, _, _, _, _, _, _, _, _, _, _, _, _, _, _, _, _, _, _, _, _, _, _, _, _, _, _, _, _, _, _, _, _, _, _, _, _, _, _, _, _, _, _, _, _, _, _, _, _, _, _, _, _, _, _, _, _, _, _, _, _, _, _, _, _, _, _, _, _, _, _, _, _, _, _, _, _, _, _, _, _, _, _, _, _, _, _, _, _, _, _, _, _, _, _, _, _, _, _, _, _, _, _, _, _, _, _, _, _, _] _
            clear hfit
            refine run_seq ?_
            refine run_seq ?_
            refine run_region ?_
            refine ops_val (ex_move rfl) ?_
            refine ops_test (ex_lss rfl rfl) (fun hp118 => ?_) (fun hp118 => ?_)
            · have hkl : k < 64 := by omega
              refine ops_nil ?_
              change Run _ _ _ _ [_, _, _, _, _, _, _, _, _, _, _, _, _, _, _, _, _, _, _, _, _, _, _, _, _, _, _, _, _, _, _, _, _, _, _, _, _, _, _, _, _, _, _, _, _, _, _, _, _, _, _, _, _, _, _, _, _, _, _, _, _, _, _, _, _, _, _, _, _, _, _, _, _, _, _, _, _, _, _, _, _, _, _, _, _, _, _, _, _, _, _, _, _, _, _, _, _, _, _, _, _, _, _, _, _, _, _, _, _, _, _, _, _, _, _, _, _, _, _, _, _, _, _, _, _, _, _, _, _, _, _, _, _, _, _, _, _, _, _, _, _, _, _, _, _, _, _, _, _, _, _, _, _, _, _, _, _, _, _, _, _, _, _, _, _, _, _, _] _
              refine run_cond_true rfl ?_
              refine run_skip ?_
              refine run_seq ?_
              refine run_block ?_
              refine run_seq ?_
              refine run_still mixed (by kernel_rfl) ?_
              rintro w17 hw17
              have H17 := Hp.drew H16; rw [← hw17] at H17
              refine still_val (ex_move rfl) ?_
              refine still_val (ex_move rfl) ?_
              refine still_val (ex_idx Try.underlying38 ty33 rfl rfl rfl hql (Nat.mul_one _)) ?_
              refine still_val (ex_load ty33 rfl ((ha1.to0 H17).cells _ rfl q _ hxa)) ?_
              change Still _ _ _ _ _ _ [_, _, _, _, _, _, _, _, _, _, _, _, _, _, _, _, _, _, _, _, _, _, _, _, _, _, _, _, _, _, _, _, _, _, _, _, _, _, _, _, _, _, _, _, _, _, _, _, _, _, _, _, _, _, _, _, _, _, _, _, _, _, _, _, _, _, _, _, _, _, _, _, _, _, _, _, _, _, _, _, _, _, _, _, _, _, _, _, _, _, _, _, _, _, _, _, _, _, _, _, _, _, _, _, _, _, _, _, _, _, _, _, _, _, _, _, _, _, _, _, _, _, _, _, _, _, _, _, _, _, _, _, _, _, _, _, _, _, _, _, _, _, _, _, _, _, _, _, _, _, _, _, _, _, _, _, _, _, _, _, _, _, _, _, _, _, _, _]
              refine still_val (ex_move rfl) ?_
              refine still_val (ex_idx Try.underlying33 ty5 rfl rfl rfl hkl (Nat.mul_one _)) ?_
              refine still_val (ex_load ty5 rfl ((hra.to0 H17).cells pa rfl k _ (u8s_getD hla hkl))) ?_
              refine still_val (ex_move rfl) ?_
              change Still _ _ _ _ _ _ [_, _, _, _, _, _, _, _, _, _, _, _, _, _, _, _, _, _, _, _, _, _, _, _, _, _, _, _, _, _, _, _, _, _, _, _, _, _, _, _, _, _, _, _, _, _, _, _, _, _, _, _, _, _, _, _, _, _, _, _, _, _, _, _, _, _, _, _, _, _, _, _, _, _, _, _, _, _, _, _, _, _, _, _, _, _, _, _, _, _, _, _, _, _, _, _, _, _, _, _, _, _, _, _, _, _, _, _, _, _, _, _, _, _, _, _, _, _, _, _, _, _, _, _, _, _, _, _, _, _, _, _, _, _, _, _, _, _, _, _, _, _, _, _, _, _, _, _, _, _, _, _, _, _, _, _, _, _, _, _, _, _, _, _, _, _, _, _]
              refine still_val (ex_move rfl) ?_
              refine still_val (ex_idx Try.underlying38 ty33 rfl rfl rfl hql (Nat.mul_one _)) ?_
              refine still_val (ex_load ty33 rfl ((hb1.to0 H17).cells _ rfl q _ hxb)) ?_
              refine still_val (ex_move rfl) ?_
              change Still _ _ _ _ _ _ [_, _, _, _, _, _, _, _, _, _, _, _, _, _, _, _, _, _, _, _, _, _, _, _, _, _, _, _, _, _, _, _, _, _, _, _, _, _, _, _, _, _, _, _, _, _, _, _, _, _, _, _, _, _, _, _, _, _, _, _, _, _, _, _, _, _, _, _, _, _, _, _, _, _, _, _, _, _, _, _, _, _, _, _, _, _, _, _, _, _, _, _, _, _, _, _, _, _, _, _, _, _, _, _, _, _, _, _, _, _, _, _, _, _, _, _, _, _, _, _, _, _, _, _, _, _, _, _, _, _, _, _, _, _, _, _, _, _, _, _, _, _, _, _, _, _, _, _, _, _, _, _, _, _, _, _, _, _, _, _, _, _, _, _, _, _, _, _]
              refine still_val (ex_idx Try.underlying33 ty5 rfl rfl rfl hkl (Nat.mul_one _)) ?_
              refine still_val (ex_load ty5 rfl ((hrb.to0 H17).cells pb rfl k _ (u8s_getD hlb hkl))) ?_
              refine still_val (ex_eql rfl rfl) ?_
              refine still_val (ex_assign rfl) ?_
              refine still_nil ?_
              change Run _ _ _ _ [_, _, _, _, _, _, _, _, _, _, _, _, _, _, _, _, _, _, _, _, _, _, _, _, _, _, _, _, _, _, _, _, _, _, _, _, _, _, _, _, _, _, _, _, _, _, _, _, _, _, _, _, _, _, _, _, _, _, _, _, _, _, _, _, _, _, _, _, _, _, _, _, _, _, _, _, _, _, _, _, _, _, _, _, _, _, _, _, _, _, _, _, _, _, _, _, _, _, _, _, _, _, _, _, _, _, _, _, _, _, _, _, _, _, _, _, _, _, _, _, _, _, _, _, _, _, _, _, _, _, _, _, _, _, _, _, _, _, _, _, _, _, _, _, _, _, _, _, _, _, _, _, _, _, _, _, _, _, _, _, _, _, _, _, _, _, _, _] _
              refine run_seq ?_
              refine run_seq ?_
              refine run_region ?_
              refine ops_val (ex_assign rfl) ?_
              refine ops_nil ?_
              change Run _ _ _ _ [_, _, _, _, _, _, _, _, _, _, _, _, _, _, _, _, _, _, _, _, _, _, _, _, _, _, _, _, _, _, _, _, _, _, _, _, _, _, _, _, _, _, _, _, _, _, _, _, _, _, _, _, _, _, _, _, _, _, _, _, _, _, _, _, _, _, _, _, _, _, _, _, _, _, _, _, _, _, _, _, _, _, _, _, _, _, _, _, _, _, _, _, _, _, _, _, _, _, _, _, _, _, _, _, _, _, _, _, _, _, _, _, _, _, _, _, _, _, _, _, _, _, _, _, _, _, _, _, _, _, _, _, _, _, _, _, _, _, _, _, _, _, _, _, _, _, _, _, _, _, _, _, _, _, _, _, _, _, _, _, _, _, _, _, _, _, _, _] _
              refine run_block ?_
              refine run_loop (fun n l w => ∃ (x0 : Nat) (x : Int) (ok : Bool), (Wof ws q).length - x0 = n ∧ Fits [none, none, none, none, none, none, none, none, none, none, some (.slice (hd (some gb)) E0.kept.length cl1), some (.slice (hd (some gW)) E0.kept.length E0.kept.length), none, none, some (.slice (hd (some ga)) E0.kept.length cl2), some (.int .i64 (q : Int)), some (.int .i64 (k : Int)), some (.bool ok), some (.int .i64 x), none, none, none, none, none, none, none, none, none, none, none, none, none, none, none, none, none, none, none, none, none, none, none, none, none, none, none, none, none, none, none, none, none, none, none, none, none, none, none, none, none, none, none, none, none, none, none, none, none, none, none, none, none, none, none, none, none, none, none, none, none, none, none, none, none, none, none, none, none, none, none, none, none, none, none, none, none, none, none, none, none, none, none, none, none, none, none, none, none, none, none, none, none, none, none, none, none, none, none, none, none, none, none, none, none, none, none, none, none, none, none, none, none, none, none, none, none, none, none, none, none, none, none, none, none, none, none, none, none, none, none, none, none, none, none, none, none, none, none, none, none, none, none, none, none, none, none, none, none] l ∧ x = x0 ∧ x0 ≤ (Wof ws q).length ∧ ok = okU ((D6.show q).getD k 0) ((E0.show q).getD k 0) (Wof ws q) k x0 ∧ Hp wX w [] []) ((Wof ws q).length) ?_ ?_
              · exact ⟨0, _, _, rfl, (fn (fn (fn (fn (fn (fn (fn (fn (fn (fn (fs (fs (fn (fn (fs (fs (fs (fs (fs (fn (fn (fn (fn (fn (fn (fn (fn (fn (fn (fn (fn (fn (fn (fn (fn (fn (fn (fn (fn (fn (fn (fn (fn (fn (fn (fn (fn (fn (fn (fn (fn (fn (fn (fn (fn (fn (fn (fn (fn (fn (fn (fn (fn (fn (fn (fn (fn (fn (fn (fn (fn (fn (fn (fn (fn (fn (fn (fn (fn (fn (fn (fn (fn (fn (fn (fn (fn (fn (fn (fn (fn (fn (fn (fn (fn (fn (fn (fn (fn (fn (fn (fn (fn (fn (fn (fn (fn (fn (fn (fn (fn (fn (fn (fn (fn (fn (fn (fn (fn (fn (fn (fn (fn (fn (fn (fn (fn (fn (fn (fn (fn (fn (fn (fn (fn (fn (fn (fn (fn (fn (fn (fn (fn (fn (fn (fn (fn (fn (fn (fn (fn (fn (fn (fn (fn (fn (fn (fn (fn (fn (fn (fn (fn (fn (fn (fn (fn (fn f0)))))))))))))))))))))))))))))))))))))))))))))))))))))))))))))))))))))))))))))))))))))))))))))))))))))))))))))))))))))))))))))))))))))))))))))))))))))))))))))))))))))))), rfl, Nat.zero_le _, (okU_zero _ _ _ _).symm, H17⟩
              · rintro n l w18 ⟨x0, x, ok, rfl, hfit, rfl, hx0, hok, H18⟩
                obtain ⟨j, rfl⟩ := hfit.open
                change Run _ _ _ _ [_, _, _, _, _, _, _, _, _, _, _, _, _, _, _, _, _, _, _, _, _, _, _, _, _, _, _, _, _, _, _, _, _, _, _, _, _, _, _, _, _, _, _, _, _, _, _, _, _, _, _, _, _, _, _, _, _, _, _, _, _, _, _, _, _, _, _, _, _, _, _, _, _, _, _, _, _, _, _, _, _, _, _, _, _, _, _, _, _, _, _, _, _, _, _, _, _, _, _, _, _, _, _, _, _, _, _, _, _, _, _, _, _, _, _, _, _, _, _, _, _, _, _, _, _, _, _, _, _, _, _, _, _, _, _, _, _, _, _, _, _, _, _, _, _, _, _, _, _, _, _, _, _, _, _, _, _, _, _, _, _, _, _, _, _, _, _, _] _
                clear hfit
                refine run_seq ?_
                refine run_seq ?_
                refine run_region ?_
                refine ops_val (ex_move rfl) ?_
                refine ops_val (ex_move rfl) ?_
                refine ops_val (ex_move rfl) ?_
                refine ops_val (ex_idx Try.underlying43 ty38 rfl rfl rfl hql (Nat.mul_one _)) ?_
                change Ops _ _ _ _ _ _ [_, _, _, _, _, _, _, _, _, _, _, _, _, _, _, _, _, _, _, _, _, _, _, _, _, _, _, _, _, _, _, _, _, _, _, _, _, _, _, _, _, _, _, _, _, _, _, _, _, _, _, _, _, _, _, _, _, _, _, _, _, _, _, _, _, _, _, _, _, _, _, _, _, _, _, _, _, _, _, _, _, _, _, _, _, _, _, _, _, _, _, _, _, _, _, _, _, _, _, _, _, _, _, _, _, _, _, _, _, _, _, _, _, _, _, _, _, _, _, _, _, _, _, _, _, _, _, _, _, _, _, _, _, _, _, _, _, _, _, _, _, _, _, _, _, _, _, _, _, _, _, _, _, _, _, _, _, _, _, _, _, _, _, _, _, _, _, _] _
                refine ops_val (ex_load ty38 rfl ((hc1_.to0 H18).cells _ rfl q _ hxc)) ?_
                refine ops_val (ex_len_slice Try.underlying38 rfl) ?_
                refine ops_test (ex_lss rfl rfl) (fun hp142 => ?_) (fun hp142 => ?_)
                · have hjl : x0 < (Wof ws q).length := by omega
                  have hWm3 := Wof_most ws q
                  obtain ⟨pz, kz, hyz, hrz1, hlz⟩ := hrz x0 hjl
                  obtain ⟨pg, rfl⟩ := hry.some_ (by omega)
                  refine ops_nil ?_
                  change Run _ _ _ _ [_, _, _, _, _, _, _, _, _, _, _, _, _, _, _, _, _, _, _, _, _, _, _, _, _, _, _, _, _, _, _, _, _, _, _, _, _, _, _, _, _, _, _, _, _, _, _, _, _, _, _, _, _, _, _, _, _, _, _, _, _, _, _, _, _, _, _, _, _, _, _, _, _, _, _, _, _, _, _, _, _, _, _, _, _, _, _, _, _, _, _, _, _, _, _, _, _, _, _, _, _, _, _, _, _, _, _, _, _, _, _, _, _, _, _, _, _, _, _, _, _, _, _, _, _, _, _, _, _, _, _, _, _, _, _, _, _, _, _, _, _, _, _, _, _, _, _, _, _, _, _, _, _, _, _, _, _, _, _, _, _, _, _, _, _, _, _, _] _
                  refine run_cond_true rfl ?_
                  refine run_skip ?_
                  refine run_seq ?_
                  refine run_block ?_
                  cases ok
                  · skip
                    refine run_still mixed (by kernel_rfl) ?_
                    rintro w19 hw19
                    have H19 := Hp.drew H18; rw [← hw19] at H19
                    refine still_val (ex_move rfl) ?_
                    refine still_val (ex_move rfl) ?_
                    change Still _ _ _ _ _ _ [_, _, _, _, _, _, _, _, _, _, _, _, _, _, _, _, _, _, _, _, _, _, _, _, _, _, _, _, _, _, _, _, _, _, _, _, _, _, _, _, _, _, _, _, _, _, _, _, _, _, _, _, _, _, _, _, _, _, _, _, _, _, _, _, _, _, _, _, _, _, _, _, _, _, _, _, _, _, _, _, _, _, _, _, _, _, _, _, _, _, _, _, _, _, _, _, _, _, _, _, _, _, _, _, _, _, _, _, _, _, _, _, _, _, _, _, _, _, _, _, _, _, _, _, _, _, _, _, _, _, _, _, _, _, _, _, _, _, _, _, _, _, _, _, _, _, _, _, _, _, _, _, _, _, _, _, _, _, _, _, _, _, _, _, _, _, _, _]
                    refine still_yes rfl ?_
                    refine still_val (ex_move rfl) ?_
                    refine still_yes rfl ?_
                    refine still_val (ex_move rfl) ?_
                    change Still _ _ _ _ _ _ [_, _, _, _, _, _, _, _, _, _, _, _, _, _, _, _, _, _, _, _, _, _, _, _, _, _, _, _, _, _, _, _, _, _, _, _, _, _, _, _, _, _, _, _, _, _, _, _, _, _, _, _, _, _, _, _, _, _, _, _, _, _, _, _, _, _, _, _, _, _, _, _, _, _, _, _, _, _, _, _, _, _, _, _, _, _, _, _, _, _, _, _, _, _, _, _, _, _, _, _, _, _, _, _, _, _, _, _, _, _, _, _, _, _, _, _, _, _, _, _, _, _, _, _, _, _, _, _, _, _, _, _, _, _, _, _, _, _, _, _, _, _, _, _, _, _, _, _, _, _, _, _, _, _, _, _, _, _, _, _, _, _, _, _, _, _, _, _]
                    refine still_yes rfl ?_
                    refine still_val (ex_idx Try.underlying38 ty33 rfl rfl rfl hql (Nat.mul_one _)) ?_
                    refine still_yes rfl ?_
                    refine still_val (ex_load ty33 rfl ((ha1.to0 H19).cells _ rfl q _ hxa)) ?_
                    change Still _ _ _ _ _ _ [_, _, _, _, _, _, _, _, _, _, _, _, _, _, _, _, _, _, _, _, _, _, _, _, _, _, _, _, _, _, _, _, _, _, _, _, _, _, _, _, _, _, _, _, _, _, _, _, _, _, _, _, _, _, _, _, _, _, _, _, _, _, _, _, _, _, _, _, _, _, _, _, _, _, _, _, _, _, _, _, _, _, _, _, _, _, _, _, _, _, _, _, _, _, _, _, _, _, _, _, _, _, _, _, _, _, _, _, _, _, _, _, _, _, _, _, _, _, _, _, _, _, _, _, _, _, _, _, _, _, _, _, _, _, _, _, _, _, _, _, _, _, _, _, _, _, _, _, _, _, _, _, _, _, _, _, _, _, _, _, _, _, _, _, _, _, _, _]
                    refine still_yes rfl ?_
                    refine still_val (ex_move rfl) ?_
                    refine still_yes rfl ?_
                    refine still_val (ex_idx Try.underlying33 ty5 rfl rfl rfl hkl (Nat.mul_one _)) ?_
                    change Still _ _ _ _ _ _ [_, _, _, _, _, _, _, _, _, _, _, _, _, _, _, _, _, _, _, _, _, _, _, _, _, _, _, _, _, _, _, _, _, _, _, _, _, _, _, _, _, _, _, _, _, _, _, _, _, _, _, _, _, _, _, _, _, _, _, _, _, _, _, _, _, _, _, _, _, _, _, _, _, _, _, _, _, _, _, _, _, _, _, _, _, _, _, _, _, _, _, _, _, _, _, _, _, _, _, _, _, _, _, _, _, _, _, _, _, _, _, _, _, _, _, _, _, _, _, _, _, _, _, _, _, _, _, _, _, _, _, _, _, _, _, _, _, _, _, _, _, _, _, _, _, _, _, _, _, _, _, _, _, _, _, _, _, _, _, _, _, _, _, _, _, _, _, _]
                    refine still_yes rfl ?_
                    refine still_val (ex_load ty5 rfl ((hra.to0 H19).cells pa rfl k _ (u8s_getD hla hkl))) ?_
                    refine still_yes rfl ?_
                    refine still_val (ex_move rfl) ?_
                    change Still _ _ _ _ _ _ [_, _, _, _, _, _, _, _, _, _, _, _, _, _, _, _, _, _, _, _, _, _, _, _, _, _, _, _, _, _, _, _, _, _, _, _, _, _, _, _, _, _, _, _, _, _, _, _, _, _, _, _, _, _, _, _, _, _, _, _, _, _, _, _, _, _, _, _, _, _, _, _, _, _, _, _, _, _, _, _, _, _, _, _, _, _, _, _, _, _, _, _, _, _, _, _, _, _, _, _, _, _, _, _, _, _, _, _, _, _, _, _, _, _, _, _, _, _, _, _, _, _, _, _, _, _, _, _, _, _, _, _, _, _, _, _, _, _, _, _, _, _, _, _, _, _, _, _, _, _, _, _, _, _, _, _, _, _, _, _, _, _, _, _, _, _, _, _]
                    refine still_yes rfl ?_
                    refine still_val (ex_move rfl) ?_
                    refine still_yes rfl ?_
                    refine still_val (ex_idx Try.underlying43 ty38 rfl rfl rfl hql (Nat.mul_one _)) ?_
                    change Still _ _ _ _ _ _ [_, _, _, _, _, _, _, _, _, _, _, _, _, _, _, _, _, _, _, _, _, _, _, _, _, _, _, _, _, _, _, _, _, _, _, _, _, _, _, _, _, _, _, _, _, _, _, _, _, _, _, _, _, _, _, _, _, _, _, _, _, _, _, _, _, _, _, _, _, _, _, _, _, _, _, _, _, _, _, _, _, _, _, _, _, _, _, _, _, _, _, _, _, _, _, _, _, _, _, _, _, _, _, _, _, _, _, _, _, _, _, _, _, _, _, _, _, _, _, _, _, _, _, _, _, _, _, _, _, _, _, _, _, _, _, _, _, _, _, _, _, _, _, _, _, _, _, _, _, _, _, _, _, _, _, _, _, _, _, _, _, _, _, _, _, _, _, _]
                    refine still_yes rfl ?_
                    refine still_val (ex_load ty38 rfl ((hc1_.to0 H19).cells _ rfl q _ hxc)) ?_
                    refine still_yes rfl ?_
                    refine still_val (ex_move rfl) ?_
                    change Still _ _ _ _ _ _ [_, _, _, _, _, _, _, _, _, _, _, _, _, _, _, _, _, _, _, _, _, _, _, _, _, _, _, _, _, _, _, _, _, _, _, _, _, _, _, _, _, _, _, _, _, _, _, _, _, _, _, _, _, _, _, _, _, _, _, _, _, _, _, _, _, _, _, _, _, _, _, _, _, _, _, _, _, _, _, _, _, _, _, _, _, _, _, _, _, _, _, _, _, _, _, _, _, _, _, _, _, _, _, _, _, _, _, _, _, _, _, _, _, _, _, _, _, _, _, _, _, _, _, _, _, _, _, _, _, _, _, _, _, _, _, _, _, _, _, _, _, _, _, _, _, _, _, _, _, _, _, _, _, _, _, _, _, _, _, _, _, _, _, _, _, _, _, _]
                    refine still_yes rfl ?_
                    refine still_val (ex_idx Try.underlying38 ty33 rfl rfl rfl hjl (Nat.mul_one _)) ?_
                    refine still_yes rfl ?_
                    refine still_val (ex_load ty33 rfl ((hry.to0 H19).cells pg rfl x0 _ hyz)) ?_
                    change Still _ _ _ _ _ _ [_, _, _, _, _, _, _, _, _, _, _, _, _, _, _, _, _, _, _, _, _, _, _, _, _, _, _, _, _, _, _, _, _, _, _, _, _, _, _, _, _, _, _, _, _, _, _, _, _, _, _, _, _, _, _, _, _, _, _, _, _, _, _, _, _, _, _, _, _, _, _, _, _, _, _, _, _, _, _, _, _, _, _, _, _, _, _, _, _, _, _, _, _, _, _, _, _, _, _, _, _, _, _, _, _, _, _, _, _, _, _, _, _, _, _, _, _, _, _, _, _, _, _, _, _, _, _, _, _, _, _, _, _, _, _, _, _, _, _, _, _, _, _, _, _, _, _, _, _, _, _, _, _, _, _, _, _, _, _, _, _, _, _, _, _, _, _, _]
                    refine still_yes rfl ?_
                    refine still_val (ex_move rfl) ?_
                    refine still_yes rfl ?_
                    refine still_val (ex_idx Try.underlying33 ty5 rfl rfl rfl hkl (Nat.mul_one _)) ?_
                    change Still _ _ _ _ _ _ [_, _, _, _, _, _, _, _, _, _, _, _, _, _, _, _, _, _, _, _, _, _, _, _, _, _, _, _, _, _, _, _, _, _, _, _, _, _, _, _, _, _, _, _, _, _, _, _, _, _, _, _, _, _, _, _, _, _, _, _, _, _, _, _, _, _, _, _, _, _, _, _, _, _, _, _, _, _, _, _, _, _, _, _, _, _, _, _, _, _, _, _, _, _, _, _, _, _, _, _, _, _, _, _, _, _, _, _, _, _, _, _, _, _, _, _, _, _, _, _, _, _, _, _, _, _, _, _, _, _, _, _, _, _, _, _, _, _, _, _, _, _, _, _, _, _, _, _, _, _, _, _, _, _, _, _, _, _, _, _, _, _, _, _, _, _, _, _]
                    refine still_yes rfl ?_
                    refine still_val (ex_load ty5 rfl ((hrz1.to0 H19).cells pz rfl k _ (u8s_getD hlz hkl))) ?_
                    refine still_yes rfl ?_
                    refine still_val (ex_eql rfl rfl) ?_
                    refine still_val (ex_pick_f rfl rfl) ?_
                    refine still_val (ex_assign rfl) ?_
                    refine still_nil ?_
                    change Run _ _ _ _ [_, _, _, _, _, _, _, _, _, _, _, _, _, _, _, _, _, _, _, _, _, _, _, _, _, _, _, _, _, _, _, _, _, _, _, _, _, _, _, _, _, _, _, _, _, _, _, _, _, _, _, _, _, _, _, _, _, _, _, _, _, _, _, _, _, _, _, _, _, _, _, _, _, _, _, _, _, _, _, _, _, _, _, _, _, _, _, _, _, _, _, _, _, _, _, _, _, _, _, _, _, _, _, _, _, _, _, _, _, _, _, _, _, _, _, _, _, _, _, _, _, _, _, _, _, _, _, _, _, _, _, _, _, _, _, _, _, _, _, _, _, _, _, _, _, _, _, _, _, _, _, _, _, _, _, _, _, _, _, _, _, _, _, _, _, _, _, _] _
                    refine run_nil (blk_normal ?_)
                    refine run_region ?_
                    refine ops_val (ex_move rfl) ?_
                    refine ops_val (ex_add rfl rfl (IntWalk.i64_in _ (by omega))) ?_
                    refine ops_val (ex_assign rfl) ?_
                    refine ops_nil ?_
                    change Run _ _ _ _ [_, _, _, _, _, _, _, _, _, _, _, _, _, _, _, _, _, _, _, _, _, _, _, _, _, _, _, _, _, _, _, _, _, _, _, _, _, _, _, _, _, _, _, _, _, _, _, _, _, _, _, _, _, _, _, _, _, _, _, _, _, _, _, _, _, _, _, _, _, _, _, _, _, _, _, _, _, _, _, _, _, _, _, _, _, _, _, _, _, _, _, _, _, _, _, _, _, _, _, _, _, _, _, _, _, _, _, _, _, _, _, _, _, _, _, _, _, _, _, _, _, _, _, _, _, _, _, _, _, _, _, _, _, _, _, _, _, _, _, _, _, _, _, _, _, _, _, _, _, _, _, _, _, _, _, _, _, _, _, _, _, _, _, _, _, _, _, _] _
                    refine run_nil (rnd_normal ?_)
                    exact ⟨(Wof ws q).length - (x0 + 1), by omega, x0 + 1, _, _, rfl, (fn (fn (fn (fn (fn (fn (fn (fn (fn (fn (fs (fs (fn (fn (fs (fs (fs (fs (fs (fn (fn (fn (fn (fn (fn (fn (fn (fn (fn (fn (fn (fn (fn (fn (fn (fn (fn (fn (fn (fn (fn (fn (fn (fn (fn (fn (fn (fn (fn (fn (fn (fn (fn (fn (fn (fn (fn (fn (fn (fn (fn (fn (fn (fn (fn (fn (fn (fn (fn (fn (fn (fn (fn (fn (fn (fn (fn (fn (fn (fn (fn (fn (fn (fn (fn (fn (fn (fn (fn (fn (fn (fn (fn (fn (fn (fn (fn (fn (fn (fn (fn (fn (fn (fn (fn (fn (fn (fn (fn (fn (fn (fn (fn (fn (fn (fn (fn (fn (fn (fn (fn (fn (fn (fn (fn (fn (fn (fn (fn (fn (fn (fn (fn (fn (fn (fn (fn (fn (fn (fn (fn (fn (fn (fn (fn (fn (fn (fn (fn (fn (fn (fn (fn (fn (fn (fn (fn (fn (fn (fn (fn (fn (fn (fn (fn (fn (fn (fn f0)))))))))))))))))))))))))))))))))))))))))))))))))))))))))))))))))))))))))))))))))))))))))))))))))))))))))))))))))))))))))))))))))))))))))))))))))))))))))))))))))))))))), rfl, by omega, by rw [okU_succ hjl, ← hok]; rfl, H19⟩
                  · skip
                    refine run_still mixed (by kernel_rfl) ?_
                    rintro w19 hw19
                    have H19 := Hp.drew H18; rw [← hw19] at H19
                    refine still_val (ex_move rfl) ?_
                    refine still_val (ex_move rfl) ?_
                    change Still _ _ _ _ _ _ [_, _, _, _, _, _, _, _, _, _, _, _, _, _, _, _, _, _, _, _, _, _, _, _, _, _, _, _, _, _, _, _, _, _, _, _, _, _, _, _, _, _, _, _, _, _, _, _, _, _, _, _, _, _, _, _, _, _, _, _, _, _, _, _, _, _, _, _, _, _, _, _, _, _, _, _, _, _, _, _, _, _, _, _, _, _, _, _, _, _, _, _, _, _, _, _, _, _, _, _, _, _, _, _, _, _, _, _, _, _, _, _, _, _, _, _, _, _, _, _, _, _, _, _, _, _, _, _, _, _, _, _, _, _, _, _, _, _, _, _, _, _, _, _, _, _, _, _, _, _, _, _, _, _, _, _, _, _, _, _, _, _, _, _, _, _, _, _]
                    refine still_no rfl ?_
                    refine still_no rfl ?_
                    change Still _ _ _ _ _ _ [_, _, _, _, _, _, _, _, _, _, _, _, _, _, _, _, _, _, _, _, _, _, _, _, _, _, _, _, _, _, _, _, _, _, _, _, _, _, _, _, _, _, _, _, _, _, _, _, _, _, _, _, _, _, _, _, _, _, _, _, _, _, _, _, _, _, _, _, _, _, _, _, _, _, _, _, _, _, _, _, _, _, _, _, _, _, _, _, _, _, _, _, _, _, _, _, _, _, _, _, _, _, _, _, _, _, _, _, _, _, _, _, _, _, _, _, _, _, _, _, _, _, _, _, _, _, _, _, _, _, _, _, _, _, _, _, _, _, _, _, _, _, _, _, _, _, _, _, _, _, _, _, _, _, _, _, _, _, _, _, _, _, _, _, _, _, _, _]
                    refine still_no rfl ?_
                    refine still_no rfl ?_
                    change Still _ _ _ _ _ _ [_, _, _, _, _, _, _, _, _, _, _, _, _, _, _, _, _, _, _, _, _, _, _, _, _, _, _, _, _, _, _, _, _, _, _, _, _, _, _, _, _, _, _, _, _, _, _, _, _, _, _, _, _, _, _, _, _, _, _, _, _, _, _, _, _, _, _, _, _, _, _, _, _, _, _, _, _, _, _, _, _, _, _, _, _, _, _, _, _, _, _, _, _, _, _, _, _, _, _, _, _, _, _, _, _, _, _, _, _, _, _, _, _, _, _, _, _, _, _, _, _, _, _, _, _, _, _, _, _, _, _, _, _, _, _, _, _, _, _, _, _, _, _, _, _, _, _, _, _, _, _, _, _, _, _, _, _, _, _, _, _, _, _, _, _, _, _, _]
                    refine still_no rfl ?_
                    refine still_no rfl ?_
                    change Still _ _ _ _ _ _ [_, _, _, _, _, _, _, _, _, _, _, _, _, _, _, _, _, _, _, _, _, _, _, _, _, _, _, _, _, _, _, _, _, _, _, _, _, _, _, _, _, _, _, _, _, _, _, _, _, _, _, _, _, _, _, _, _, _, _, _, _, _, _, _, _, _, _, _, _, _, _, _, _, _, _, _, _, _, _, _, _, _, _, _, _, _, _, _, _, _, _, _, _, _, _, _, _, _, _, _, _, _, _, _, _, _, _, _, _, _, _, _, _, _, _, _, _, _, _, _, _, _, _, _, _, _, _, _, _, _, _, _, _, _, _, _, _, _, _, _, _, _, _, _, _, _, _, _, _, _, _, _, _, _, _, _, _, _, _, _, _, _, _, _, _, _, _, _]
                    refine still_no rfl ?_
                    refine still_no rfl ?_
                    change Still _ _ _ _ _ _ [_, _, _, _, _, _, _, _, _, _, _, _, _, _, _, _, _, _, _, _, _, _, _, _, _, _, _, _, _, _, _, _, _, _, _, _, _, _, _, _, _, _, _, _, _, _, _, _, _, _, _, _, _, _, _, _, _, _, _, _, _, _, _, _, _, _, _, _, _, _, _, _, _, _, _, _, _, _, _, _, _, _, _, _, _, _, _, _, _, _, _, _, _, _, _, _, _, _, _, _, _, _, _, _, _, _, _, _, _, _, _, _, _, _, _, _, _, _, _, _, _, _, _, _, _, _, _, _, _, _, _, _, _, _, _, _, _, _, _, _, _, _, _, _, _, _, _, _, _, _, _, _, _, _, _, _, _, _, _, _, _, _, _, _, _, _, _, _]
                    refine still_no rfl ?_
                    refine still_no rfl ?_
                    change Still _ _ _ _ _ _ [_, _, _, _, _, _, _, _, _, _, _, _, _, _, _, _, _, _, _, _, _, _, _, _, _, _, _, _, _, _, _, _, _, _, _, _, _, _, _, _, _, _, _, _, _, _, _, _, _, _, _, _, _, _, _, _, _, _, _, _, _, _, _, _, _, _, _, _, _, _, _, _, _, _, _, _, _, _, _, _, _, _, _, _, _, _, _, _, _, _, _, _, _, _, _, _, _, _, _, _, _, _, _, _, _, _, _, _, _, _, _, _, _, _, _, _, _, _, _, _, _, _, _, _, _, _, _, _, _, _, _, _, _, _, _, _, _, _, _, _, _, _, _, _, _, _, _, _, _, _, _, _, _, _, _, _, _, _, _, _, _, _, _, _, _, _, _, _]
                    refine still_no rfl ?_
                    refine still_no rfl ?_
                    change Still _ _ _ _ _ _ [_, _, _, _, _, _, _, _, _, _, _, _, _, _, _, _, _, _, _, _, _, _, _, _, _, _, _, _, _, _, _, _, _, _, _, _, _, _, _, _, _, _, _, _, _, _, _, _, _, _, _, _, _, _, _, _, _, _, _, _, _, _, _, _, _, _, _, _, _, _, _, _, _, _, _, _, _, _, _, _, _, _, _, _, _, _, _, _, _, _, _, _, _, _, _, _, _, _, _, _, _, _, _, _, _, _, _, _, _, _, _, _, _, _, _, _, _, _, _, _, _, _, _, _, _, _, _, _, _, _, _, _, _, _, _, _, _, _, _, _, _, _, _, _, _, _, _, _, _, _, _, _, _, _, _, _, _, _, _, _, _, _, _, _, _, _, _, _]
                    refine still_no rfl ?_
                    refine still_no rfl ?_
                    change Still _ _ _ _ _ _ [_, _, _, _, _, _, _, _, _, _, _, _, _, _, _, _, _, _, _, _, _, _, _, _, _, _, _, _, _, _, _, _, _, _, _, _, _, _, _, _, _, _, _, _, _, _, _, _, _, _, _, _, _, _, _, _, _, _, _, _, _, _, _, _, _, _, _, _, _, _, _, _, _, _, _, _, _, _, _, _, _, _, _, _, _, _, _, _, _, _, _, _, _, _, _, _, _, _, _, _, _, _, _, _, _, _, _, _, _, _, _, _, _, _, _, _, _, _, _, _, _, _, _, _, _, _, _, _, _, _, _, _, _, _, _, _, _, _, _, _, _, _, _, _, _, _, _, _, _, _, _, _, _, _, _, _, _, _, _, _, _, _, _, _, _, _, _, _]
                    refine still_no rfl ?_
                    refine still_no rfl ?_
                    change Still _ _ _ _ _ _ [_, _, _, _, _, _, _, _, _, _, _, _, _, _, _, _, _, _, _, _, _, _, _, _, _, _, _, _, _, _, _, _, _, _, _, _, _, _, _, _, _, _, _, _, _, _, _, _, _, _, _, _, _, _, _, _, _, _, _, _, _, _, _, _, _, _, _, _, _, _, _, _, _, _, _, _, _, _, _, _, _, _, _, _, _, _, _, _, _, _, _, _, _, _, _, _, _, _, _, _, _, _, _, _, _, _, _, _, _, _, _, _, _, _, _, _, _, _, _, _, _, _, _, _, _, _, _, _, _, _, _, _, _, _, _, _, _, _, _, _, _, _, _, _, _, _, _, _, _, _, _, _, _, _, _, _, _, _, _, _, _, _, _, _, _, _, _, _]
                    refine still_no rfl ?_
                    refine still_no rfl ?_
                    refine still_val (ex_pick_t rfl rfl) ?_
                    refine still_val (ex_assign rfl) ?_
                    refine still_nil ?_
                    change Run _ _ _ _ [_, _, _, _, _, _, _, _, _, _, _, _, _, _, _, _, _, _, _, _, _, _, _, _, _, _, _, _, _, _, _, _, _, _, _, _, _, _, _, _, _, _, _, _, _, _, _, _, _, _, _, _, _, _, _, _, _, _, _, _, _, _, _, _, _, _, _, _, _, _, _, _, _, _, _, _, _, _, _, _, _, _, _, _, _, _, _, _, _, _, _, _, _, _, _, _, _, _, _, _, _, _, _, _, _, _, _, _, _, _, _, _, _, _, _, _, _, _, _, _, _, _, _, _, _, _, _, _, _, _, _, _, _, _, _, _, _, _, _, _, _, _, _, _, _, _, _, _, _, _, _, _, _, _, _, _, _, _, _, _, _, _, _, _, _, _, _, _] _
                    refine run_nil (blk_normal ?_)
                    refine run_region ?_
                    refine ops_val (ex_move rfl) ?_
                    refine ops_val (ex_add rfl rfl (IntWalk.i64_in _ (by omega))) ?_
                    refine ops_val (ex_assign rfl) ?_
                    refine ops_nil ?_
                    change Run _ _ _ _ [_, _, _, _, _, _, _, _, _, _, _, _, _, _, _, _, _, _, _, _, _, _, _, _, _, _, _, _, _, _, _, _, _, _, _, _, _, _, _, _, _, _, _, _, _, _, _, _, _, _, _, _, _, _, _, _, _, _, _, _, _, _, _, _, _, _, _, _, _, _, _, _, _, _, _, _, _, _, _, _, _, _, _, _, _, _, _, _, _, _, _, _, _, _, _, _, _, _, _, _, _, _, _, _, _, _, _, _, _, _, _, _, _, _, _, _, _, _, _, _, _, _, _, _, _, _, _, _, _, _, _, _, _, _, _, _, _, _, _, _, _, _, _, _, _, _, _, _, _, _, _, _, _, _, _, _, _, _, _, _, _, _, _, _, _, _, _, _] _
                    refine run_nil (rnd_normal ?_)
                    exact ⟨(Wof ws q).length - (x0 + 1), by omega, x0 + 1, _, true, rfl, (fn (fn (fn (fn (fn (fn (fn (fn (fn (fn (fs (fs (fn (fn (fs (fs (fs (fs (fs (fn (fn (fn (fn (fn (fn (fn (fn (fn (fn (fn (fn (fn (fn (fn (fn (fn (fn (fn (fn (fn (fn (fn (fn (fn (fn (fn (fn (fn (fn (fn (fn (fn (fn (fn (fn (fn (fn (fn (fn (fn (fn (fn (fn (fn (fn (fn (fn (fn (fn (fn (fn (fn (fn (fn (fn (fn (fn (fn (fn (fn (fn (fn (fn (fn (fn (fn (fn (fn (fn (fn (fn (fn (fn (fn (fn (fn (fn (fn (fn (fn (fn (fn (fn (fn (fn (fn (fn (fn (fn (fn (fn (fn (fn (fn (fn (fn (fn (fn (fn (fn (fn (fn (fn (fn (fn (fn (fn (fn (fn (fn (fn (fn (fn (fn (fn (fn (fn (fn (fn (fn (fn (fn (fn (fn (fn (fn (fn (fn (fn (fn (fn (fn (fn (fn (fn (fn (fn (fn (fn (fn (fn (fn (fn (fn (fn (fn (fn (fn f0)))))))))))))))))))))))))))))))))))))))))))))))))))))))))))))))))))))))))))))))))))))))))))))))))))))))))))))))))))))))))))))))))))))))))))))))))))))))))))))))))))))))), rfl, by omega, by rw [okU_succ hjl, ← hok]; rfl, H19⟩
                · obtain rfl : x0 = (Wof ws q).length := by omega
                  obtain rfl : ok = true := by rw [hok]; exact hlaw q k
                  refine ops_nil ?_
                  change Run _ _ _ _ [_, _, _, _, _, _, _, _, _, _, _, _, _, _, _, _, _, _, _, _, _, _, _, _, _, _, _, _, _, _, _, _, _, _, _, _, _, _, _, _, _, _, _, _, _, _, _, _, _, _, _, _, _, _, _, _, _, _, _, _, _, _, _, _, _, _, _, _, _, _, _, _, _, _, _, _, _, _, _, _, _, _, _, _, _, _, _, _, _, _, _, _, _, _, _, _, _, _, _, _, _, _, _, _, _, _, _, _, _, _, _, _, _, _, _, _, _, _, _, _, _, _, _, _, _, _, _, _, _, _, _, _, _, _, _, _, _, _, _, _, _, _, _, _, _, _, _, _, _, _, _, _, _, _, _, _, _, _, _, _, _, _, _, _, _, _, _, _] _
                  refine run_cond_false rfl ?_
                  refine run_exit ?_
                  refine rnd_exit ?_
                  refine blk_exit ?_
                  refine run_seq ?_
                  refine run_region ?_
                  refine ops_val (ex_move rfl) ?_
                  refine ops_val (ex_not rfl) ?_
                  refine ops_nil ?_
                  change Run _ _ _ _ [_, _, _, _, _, _, _, _, _, _, _, _, _, _, _, _, _, _, _, _, _, _, _, _, _, _, _, _, _, _, _, _, _, _, _, _, _, _, _, _, _, _, _, _, _, _, _, _, _, _, _, _, _, _, _, _, _, _, _, _, _, _, _, _, _, _, _, _, _, _, _, _, _, _, _, _, _, _, _, _, _, _, _, _, _, _, _, _, _, _, _, _, _, _, _, _, _, _, _, _, _, _, _, _, _, _, _, _, _, _, _, _, _, _, _, _, _, _, _, _, _, _, _, _, _, _, _, _, _, _, _, _, _, _, _, _, _, _, _, _, _, _, _, _, _, _, _, _, _, _, _, _, _, _, _, _, _, _, _, _, _, _, _, _, _, _, _, _] _
                  refine run_cond_false rfl ?_
                  refine run_skip ?_
                  refine run_nil (blk_normal ?_)
                  refine run_region ?_
                  refine ops_val (ex_move rfl) ?_
                  refine ops_val (ex_add rfl rfl (IntWalk.i64_in _ (by omega))) ?_
                  refine ops_val (ex_assign rfl) ?_
                  refine ops_nil ?_
                  change Run _ _ _ _ [_, _, _, _, _, _, _, _, _, _, _, _, _, _, _, _, _, _, _, _, _, _, _, _, _, _, _, _, _, _, _, _, _, _, _, _, _, _, _, _, _, _, _, _, _, _, _, _, _, _, _, _, _, _, _, _, _, _, _, _, _, _, _, _, _, _, _, _, _, _, _, _, _, _, _, _, _, _, _, _, _, _, _, _, _, _, _, _, _, _, _, _, _, _, _, _, _, _, _, _, _, _, _, _, _, _, _, _, _, _, _, _, _, _, _, _, _, _, _, _, _, _, _, _, _, _, _, _, _, _, _, _, _, _, _, _, _, _, _, _, _, _, _, _, _, _, _, _, _, _, _, _, _, _, _, _, _, _, _, _, _, _, _, _, _, _, _, _] _
                  refine run_nil (rnd_normal ?_)
                  exact ⟨64 - (k + 1), by omega, k + 1, _, rfl, (fn (fn (fn (fn (fn (fn (fn (fn (fn (fn (fs (fs (fn (fn (fs (fs (fs (fn (fn (fn (fn (fn (fn (fn (fn (fn (fn (fn (fn (fn (fn (fn (fn (fn (fn (fn (fn (fn (fn (fn (fn (fn (fn (fn (fn (fn (fn (fn (fn (fn (fn (fn (fn (fn (fn (fn (fn (fn (fn (fn (fn (fn (fn (fn (fn (fn (fn (fn (fn (fn (fn (fn (fn (fn (fn (fn (fn (fn (fn (fn (fn (fn (fn (fn (fn (fn (fn (fn (fn (fn (fn (fn (fn (fn (fn (fn (fn (fn (fn (fn (fn (fn (fn (fn (fn (fn (fn (fn (fn (fn (fn (fn (fn (fn (fn (fn (fn (fn (fn (fn (fn (fn (fn (fn (fn (fn (fn (fn (fn (fn (fn (fn (fn (fn (fn (fn (fn (fn (fn (fn (fn (fn (fn (fn (fn (fn (fn (fn (fn (fn (fn (fn (fn (fn (fn (fn (fn (fn (fn (fn (fn (fn (fn (fn (fn (fn (fn (fn f0)))))))))))))))))))))))))))))))))))))))))))))))))))))))))))))))))))))))))))))))))))))))))))))))))))))))))))))))))))))))))))))))))))))))))))))))))))))))))))))))))))))))), rfl, by omega, H18⟩
            · skip
              refine ops_nil ?_
              change Run _ _ _ _ [_, _, _, _, _, _, _, _, _, _, _, _, _, _, _, _, _, _, _, _, _, _, _, _, _, _, _, _, _, _, _, _, _, _, _, _, _, _, _, _, _, _, _, _, _, _, _, _, _, _, _, _, _, _, _, _, _, _, _, _, _, _, _, _, _, _, _, _, _, _, _, _, _, _, _, _, _, _, _, _, _, _, _, _, _, _, _, _, _, _, _, _, _, _, _, _, _, _, _, _, _, _, _, _, _, _, _, _, _, _, _, _, _, _, _, _, _, _, _, _, _, _, _, _, _, _, _, _, _, _, _, _, _, _, _, _, _, _, _, _, _, _, _, _, _, _, _, _, _, _, _, _, _, _, _, _, _, _, _, _, _, _, _, _, _, _, _, _] _
              refine run_cond_false rfl ?_
              refine run_exit ?_
              refine rnd_exit ?_
              refine blk_exit ?_
              refine run_nil (blk_normal ?_)
              refine run_region ?_
              refine ops_val (ex_move rfl) ?_
              refine ops_val (ex_add rfl rfl (IntWalk.i64_in _ (by omega))) ?_
              refine ops_val (ex_assign rfl) ?_
              refine ops_nil ?_
              change Run _ _ _ _ [_, _, _, _, _, _, _, _, _, _, _, _, _, _, _, _, _, _, _, _, _, _, _, _, _, _, _, _, _, _, _, _, _, _, _, _, _, _, _, _, _, _, _, _, _, _, _, _, _, _, _, _, _, _, _, _, _, _, _, _, _, _, _, _, _, _, _, _, _, _, _, _, _, _, _, _, _, _, _, _, _, _, _, _, _, _, _, _, _, _, _, _, _, _, _, _, _, _, _, _, _, _, _, _, _, _, _, _, _, _, _, _, _, _, _, _, _, _, _, _, _, _, _, _, _, _, _, _, _, _, _, _, _, _, _, _, _, _, _, _, _, _, _, _, _, _, _, _, _, _, _, _, _, _, _, _, _, _, _, _, _, _, _, _, _, _, _, _] _
              refine run_nil (rnd_normal ?_)
              exact ⟨E0.kept.length - (q + 1), by omega, q + 1, _, rfl, (fn (fn (fn (fn (fn (fn (fn (fn (fn (fn (fs (fs (fn (fn (fs (fs (fn (fn (fn (fn (fn (fn (fn (fn (fn (fn (fn (fn (fn (fn (fn (fn (fn (fn (fn (fn (fn (fn (fn (fn (fn (fn (fn (fn (fn (fn (fn (fn (fn (fn (fn (fn (fn (fn (fn (fn (fn (fn (fn (fn (fn (fn (fn (fn (fn (fn (fn (fn (fn (fn (fn (fn (fn (fn (fn (fn (fn (fn (fn (fn (fn (fn (fn (fn (fn (fn (fn (fn (fn (fn (fn (fn (fn (fn (fn (fn (fn (fn (fn (fn (fn (fn (fn (fn (fn (fn (fn (fn (fn (fn (fn (fn (fn (fn (fn (fn (fn (fn (fn (fn (fn (fn (fn (fn (fn (fn (fn (fn (fn (fn (fn (fn (fn (fn (fn (fn (fn (fn (fn (fn (fn (fn (fn (fn (fn (fn (fn (fn (fn (fn (fn (fn (fn (fn (fn (fn (fn (fn (fn (fn (fn (fn (fn (fn (fn (fn (fn (fn f0)))))))))))))))))))))))))))))))))))))))))))))))))))))))))))))))))))))))))))))))))))))))))))))))))))))))))))))))))))))))))))))))))))))))))))))))))))))))))))))))))))))))), rfl, by omega, H16⟩
        · skip
          refine ops_nil ?_
          change Run _ _ _ _ [_, _, _, _, _, _, _, _, _, _, _, _, _, _, _, _, _, _, _, _, _, _, _, _, _, _, _, _, _, _, _, _, _, _, _, _, _, _, _, _, _, _, _, _, _, _, _, _, _, _, _, _, _, _, _, _, _, _, _, _, _, _, _, _, _, _, _, _, _, _, _, _, _, _, _, _, _, _, _, _, _, _, _, _, _, _, _, _, _, _, _, _, _, _, _, _, _, _, _, _, _, _, _, _, _, _, _, _, _, _, _, _, _, _, _, _, _, _, _, _, _, _, _, _, _, _, _, _, _, _, _, _, _, _, _, _, _, _, _, _, _, _, _, _, _, _, _, _, _, _, _, _, _, _, _, _, _, _, _, _, _, _, _, _, _, _, _, _] _
          refine run_cond_false rfl ?_
          refine run_exit ?_
          refine rnd_exit ?_
          refine blk_exit ?_
          refine run_seq ?_
          refine run_region ?_
          refine ops_val (ex_assign rfl) ?_
          refine ops_nil ?_
          change Run _ _ _ _ [_, _, _, _, _, _, _, _, _, _, _, _, _, _, _, _, _, _, _, _, _, _, _, _, _, _, _, _, _, _, _, _, _, _, _, _, _, _, _, _, _, _, _, _, _, _, _, _, _, _, _, _, _, _, _, _, _, _, _, _, _, _, _, _, _, _, _, _, _, _, _, _, _, _, _, _, _, _, _, _, _, _, _, _, _, _, _, _, _, _, _, _, _, _, _, _, _, _, _, _, _, _, _, _, _, _, _, _, _, _, _, _, _, _, _, _, _, _, _, _, _, _, _, _, _, _, _, _, _, _, _, _, _, _, _, _, _, _, _, _, _, _, _, _, _, _, _, _, _, _, _, _, _, _, _, _, _, _, _, _, _, _, _, _, _, _, _, _] _
          refine run_ret ?_
          refine fin_ret1 rfl rfl ?_
          exact ⟨rfl, HZ.call0 H15⟩
end Go.Proofs.Ytnlajgeehlpdaaa
