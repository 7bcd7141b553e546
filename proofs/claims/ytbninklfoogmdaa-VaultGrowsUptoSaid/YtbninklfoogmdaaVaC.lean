/- Walks of layer 2, printed by wip/gen/codec.py. -/
import Derived.Test.YtbninklfoogmdaaNrm
import Derived.Test.YtbninklfoogmdaaVaB
namespace Go.Proofs.Ytbninklfoogmdaa
open Go Go.RowKit
set_option linter.unusedVariables false
attribute [local irreducible] Still Ops Does Cd
set_option maxRecDepth 100000 in
set_option maxHeartbeats 4000000 in
theorem indexV (A : Option Addr) (c : Nat) (ps : List (List Value)) (n k gc : Nat) (hn : ps.length = n) (pr : List Value → Bool) (w0 : World) (hp : Pl 4 ps) (hr : Rd w0 A ps.length 4 ps.flatten) (hl : ps.length ≤ 4611686018427387904) (hk : Prd Try.prog k gc pr ps w0) :
    Does Try.prog 67 #[.slice A n c, .func (.func k) #[] #[.pointer (some ⟨gc, 0, none⟩)]] w0 (fun r w' => ∃ y : Int, r = .int .i64 y ∧ IdxR ps pr y ∧ Hp w0 w' [] []) := by
  refine does_of Try.func67 Try.ntmps67 rfl ?_
  refine nR19 ?_
  subst hn
  have H := Hp.refl w0
  refine run_seq ?_
  refine run_region ?_
  refine ops_val (ex_assign rfl) ?_
  refine ops_nil ?_
  refine nR19 ?_
  refine run_seq ?_
  refine run_seq ?_
  refine run_region ?_
  refine ops_val (ex_move rfl) ?_
  refine ops_val (ex_len_slice Try.underlying35 rfl) ?_
  refine ops_val (ex_move rfl) ?_
  refine ops_nil ?_
  refine nR19 ?_
  refine run_block ?_
  refine run_loop (fun nQ lQ w => ∃ (jj : Nat) (y : Int), ps.length - jj = nQ ∧ Fits [some (.slice A ps.length c), some (.func (.func k) #[] #[.pointer (some ⟨gc, 0, none⟩)]), none, none, none, none, none, some (.int .i64 (ps.length : Int)), some (.int .i64 y), none, none, none, none, none, none, none, none, none, none] lQ ∧ y = (jj : Int) ∧ jj ≤ ps.length ∧ (∀ q ∈ ps.take jj, pr q = false) ∧ Hp w0 w [] []) (ps.length) ?_ ?_
  · exact ⟨0, _, rfl, (fs (fs (fn (fn (fn (fn (fn (fs (fs (fn (fn (fn (fn (fn (fn (fn (fn (fn (fn f0))))))))))))))))))), rfl, Nat.zero_le _, fun q hq => by simp at hq, H⟩
  · rintro nQ lQ w1 ⟨jj, y, rfl, hfit, rfl, hj, hno, H1⟩
    obtain ⟨j, rfl⟩ := hfit.open
    refine nR19 ?_
    clear hfit
    refine run_seq ?_
    refine run_region ?_
    refine ops_test (ex_lss rfl rfl) (fun hp9 => ?_) (fun hp9 => ?_)
    · have hjl : jj < ps.length := by omega
      obtain ⟨p1, hp1⟩ := get_of hjl
      obtain ⟨a1, ha1⟩ := hr.some_ (by omega)
      subst ha1
      refine ops_nil ?_
      refine nR19 ?_
      refine run_seq ?_
      refine run_cond_true rfl ?_
      refine run_skip ?_
      refine run_seq ?_
      refine run_block ?_
      refine run_seq ?_
      refine run_region ?_
      refine ops_val (ex_move rfl) ?_
      refine ops_val (ex_assign rfl) ?_
      refine ops_nil ?_
      refine nR19 ?_
      refine run_seq ?_
      refine run_region ?_
      refine ops_val (ex_move rfl) ?_
      refine ops_val (ex_move rfl) ?_
      refine ops_val (ex_move rfl) ?_
      refine ops_val (ex_idx Try.underlying35 ty41 rfl rfl rfl hjl rfl) ?_
      refine nO19 ?_
      refine ops_val (ex_loadN ty41 rfl (vs := p1) (hp.at hp1) ((hr.to0 H1).elem hp hp1)) ?_
      refine ops_call_val (ex_call_val hk.1 rfl rfl) (hk.2.2 w1 (H1.frame gc hk.2.1 (by simp)) p1 (mem_of hp1)) ?_
      intro w2 Hd
      have H2 := H1.callN Hd
      refine ops_nil ?_
      refine nR19 ?_
      refine run_cond rfl (fun hb16 => ?_) (fun hb16 => ?_)
      · skip
        refine run_seq ?_
        refine run_region ?_
        refine ops_val (ex_move rfl) ?_
        refine ops_val (ex_assign rfl) ?_
        refine ops_nil ?_
        refine nR19 ?_
        refine run_ret ?_
        refine blk_ret ?_
        refine rnd_ret ?_
        refine blk_ret ?_
        refine fin_ret1 rfl rfl ?_
        exact ⟨_, rfl, .inr ⟨jj, p1, rfl, hp1, hb16, hno⟩, H2.noRows⟩
      · skip
        refine run_skip ?_
        refine run_nil (blk_normal ?_)
        refine run_region ?_
        refine ops_val (ex_add rfl rfl (IntWalk.i64_in _ (by omega))) ?_
        refine ops_val (ex_move rfl) ?_
        refine ops_nil ?_
        refine nR19 ?_
        refine run_nil (rnd_normal ?_)
        exact ⟨ps.length - (jj + 1), by omega, jj + 1, _, rfl, (fs (fs (fn (fn (fn (fn (fn (fs (fs (fn (fn (fn (fn (fn (fn (fn (fn (fn (fn f0))))))))))))))))))), by omega, by omega, take_all_snoc hno hp1 hb16, H2⟩
    · obtain rfl : jj = ps.length := by omega
      refine ops_nil ?_
      refine nR19 ?_
      refine run_seq ?_
      refine run_cond_false rfl ?_
      refine run_exit ?_
      refine rnd_exit ?_
      refine blk_exit ?_
      refine run_seq ?_
      refine run_region ?_
      refine ops_val (ex_assign rfl) ?_
      refine ops_nil ?_
      refine nR19 ?_
      refine run_ret ?_
      refine fin_ret1 rfl rfl ?_
      exact ⟨_, rfl, .inl ⟨rfl, by rw [List.take_length] at hno; exact hno⟩, H1.noRows⟩
set_option maxRecDepth 100000 in
set_option maxHeartbeats 4000000 in
theorem deleteV (g : Option Nat) (cap n : Nat) (ps : List (List Value)) (hn : ps.length = n) (sp : List Value) (k gc : Nat) (pr : List Value → Bool) (w0 : World) (H0 : Hp w0 w0 (bl [((g, 41, ps.flatten ++ sp) : Ent)]) [((g, 41, ps.flatten ++ sp) : Ent)]) (hp : Pl 4 ps) (ho : ∀ p ∈ ps, p.all (·.oneCell') = true) (hl : ps.length ≤ cap) (hl2 : ps.length ≤ 4611686018427387903) (hcz : cap * 4 ≤ (ps.flatten ++ sp).length) (hk : Prd Try.prog k gc pr ps w0) (hgc : gc ∉ bl [((g, 41, ps.flatten ++ sp) : Ent)]) :
    Does Try.prog 57 #[.slice (hd g) n cap, .func (.func k) #[] #[.pointer (some ⟨gc, 0, none⟩)]] w0 (fun r w' => ∃ sp', r = .slice (hd g) (ps.filter fun p => !pr p).length cap ∧ ((ps.filter fun p => !pr p).flatten ++ sp').length = (ps.flatten ++ sp).length ∧ Hp w0 w' (bl [((g, 41, ps.flatten ++ sp) : Ent)]) [((g, 41, (ps.filter fun p => !pr p).flatten ++ sp') : Ent)]) := by
  refine does_of Try.func57 Try.ntmps57 rfl ?_
  refine nR42 ?_
  subst hn
  have H := H0
  refine run_seq ?_
  refine run_region ?_
  refine ops_val (ex_assign rfl) ?_
  refine ops_nil ?_
  refine nR42 ?_
  refine run_seq ?_
  refine run_region ?_
  refine ops_val (ex_move rfl) ?_
  refine ops_val (ex_move rfl) ?_
  refine ops_call (ex_call gf67 rfl) (indexV (hd g) cap ps _ k gc rfl pr _ hp (H.rd (i := 0) rfl hp.len (by decide)) (by omega) hk) ?_
  rintro r w1 ⟨y, rfl, hix, Hd⟩
  have H1 := H.callN Hd
  refine ops_val (ex_assign rfl) ?_
  refine ops_nil ?_
  refine nR42 ?_
  refine run_seq ?_
  refine run_seq ?_
  refine run_region ?_
  refine ops_val (ex_move rfl) ?_
  refine ops_test (ex_eql rfl rfl) (fun hp12 => ?_) (fun hp12 => ?_)
  · have hnone : ∀ p ∈ ps, pr p = false := by
      rcases hix with ⟨_, h⟩ | ⟨jj, p, h, _⟩
      · exact h
      · omega
    refine ops_nil ?_
    refine nR42 ?_
    refine run_cond_true rfl ?_
    refine run_seq ?_
    refine run_region ?_
    refine ops_val (ex_move rfl) ?_
    refine ops_val (ex_assign rfl) ?_
    refine ops_nil ?_
    refine nR42 ?_
    refine run_ret ?_
    refine fin_ret1 rfl rfl ?_
    exact ⟨sp, by rw [filter_none hnone], by rw [filter_none hnone], by rw [filter_none hnone]; exact H1⟩
  · obtain ⟨j0, p0, rfl, hj0, ht0, hn0⟩ : ∃ (jj : Nat) (p : List Value), y = (jj : Int) ∧ ps[jj]? = some p ∧ pr p = true ∧ ∀ q ∈ ps.take jj, pr q = false := by
      rcases hix with ⟨h, _⟩ | h
      · omega
      · exact h
    have hj0l := lt_of_get hj0
    obtain ⟨gx, rfl⟩ := own_some H1 (i := 0) rfl (by rw [List.length_append, hp.len]; have : 0 < ps.length * 4 := Nat.mul_pos (by omega) (by decide); omega)
    clear hix
    refine ops_nil ?_
    refine nR42 ?_
    refine run_cond_false rfl ?_
    refine run_skip ?_
    refine run_seq ?_
    refine run_seq ?_
    refine run_region ?_
    refine ops_val (ex_move rfl) ?_
    refine ops_val (ex_add rfl rfl (IntWalk.i64_in _ (by omega))) ?_
    refine ops_val (ex_assign rfl) ?_
    refine ops_nil ?_
    refine nR42 ?_
    refine run_block ?_
    refine run_loop (fun nQ lQ w => ∃ (i jj : Nat) (y z : Int) (qs : List (List Value)), ps.length - jj = nQ ∧ Fits [some (.slice (hd (some gx)) ps.length cap), some (.func (.func k) #[] #[.pointer (some ⟨gc, 0, none⟩)]), none, none, none, some (.int .i64 y), some (.int .i64 z), none, none, none, none, none, none, none, none, none, none, none, none, none, none, none, none, none, none, none, none, none, none, none, none, none, none, none, none, none, none, none, none, none, none, none] lQ ∧ y = (i : Int) ∧ z = (jj : Int) ∧ Del ps qs pr i jj 4 ∧ Hp w0 w (bl [((some gx, 41, ps.flatten ++ sp) : Ent)]) [((some gx, 41, qs.flatten ++ sp) : Ent)]) (ps.length - (j0 + 1)) ?_ ?_
    · exact ⟨j0, j0 + 1, _, _, ps, rfl, (fs (fs (fn (fn (fn (fs (fs (fn (fn (fn (fn (fn (fn (fn (fn (fn (fn (fn (fn (fn (fn (fn (fn (fn (fn (fn (fn (fn (fn (fn (fn (fn (fn (fn (fn (fn (fn (fn (fn (fn (fn (fn f0)))))))))))))))))))))))))))))))))))))))))), rfl, by omega, Del.start hp hj0 ht0 hn0, H1⟩
    · rintro nQ lQ w2 ⟨i, jj, y, z, qs, rfl, hfit, rfl, rfl, hdel, H2⟩
      obtain ⟨j, rfl⟩ := hfit.open
      refine nR42 ?_
      clear hfit
      have hdl := hdel.lt
      have hde := hdel.le
      have hqn := hdel.len
      refine run_seq ?_
      refine run_seq ?_
      refine run_region ?_
      refine ops_val (ex_move rfl) ?_
      refine ops_val (ex_move rfl) ?_
      refine ops_val (ex_len_slice Try.underlying35 rfl) ?_
      refine ops_test (ex_lss rfl rfl) (fun hp19 => ?_) (fun hp19 => ?_)
      · have hjl : jj < ps.length := by omega
        obtain ⟨p1, hp1⟩ := get_of hjl
        have hq1 : qs[jj]? = some p1 := hdel.at.trans hp1
        refine ops_nil ?_
        refine nR42 ?_
        refine run_cond_true rfl ?_
        refine run_skip ?_
        refine run_seq ?_
        refine run_block ?_
        refine run_seq ?_
        refine run_region ?_
        refine ops_val (ex_move rfl) ?_
        refine ops_val (ex_move rfl) ?_
        refine ops_val (ex_idx Try.underlying35 ty41 rfl rfl rfl hjl rfl) ?_
        refine ops_val (ex_loadN ty41 rfl (vs := p1) (hp.at hp1) (H2.elem (k := 0) rfl hdel.pl hq1)) ?_
        refine nO42 ?_
        refine ops_alloc ty41 H2 ?_
        intro w3 g3 H3 hg3
        refine ops_store ty41 H3 1 rfl rfl rfl rfl (hp.at hp1) (by rw [hp.at hp1]; decide) (ho p1 (mem_of hp1)) ?_
        intro w4 H4
        rw [putAt_all (by rw [hp.at hp1]; rfl)] at H4
        refine ops_nil ?_
        refine nR42 ?_
        refine run_seq ?_
        refine run_region ?_
        refine ops_val (ex_move rfl) ?_
        refine ops_val (ex_loadN ty41 rfl (vs := p1) (hp.at hp1) (H4.cellsR (i := 1) rfl (by rw [List.drop_zero, List.take_length]))) ?_
        refine ops_call_val (ex_call_val hk.1 rfl rfl) (hk.2.2 w4 (H4.frame gc hk.2.1 hgc) p1 (mem_of hp1)) ?_
        intro w5 Hd
        have H5 := H4.callN Hd
        refine ops_val (ex_not rfl) ?_
        refine ops_nil ?_
        refine nR42 ?_
        refine run_cond rfl (fun hb29 => ?_) (fun hb29 => ?_)
        · skip
          refine run_seq ?_
          refine run_region ?_
          refine ops_val (ex_move rfl) ?_
          refine ops_val (ex_move rfl) ?_
          refine ops_val (ex_loadN ty41 rfl (vs := p1) (hp.at hp1) (H5.cellsR (i := 1) rfl (by rw [List.drop_zero, List.take_length]))) ?_
          refine ops_val (ex_idxN Try.underlying35 ty41 rfl rfl rfl (by omega)) ?_
          refine nO42 ?_
          refine ops_store ty41 H5 0 rfl rfl rfl rfl (hp.at hp1) (by rw [hp.at hp1, List.length_append, hdel.pl.len, Nat.zero_add]; have : (i + 1) * 4 ≤ qs.length * 4 := Nat.mul_le_mul_right _ (by omega); omega) (ho p1 (mem_of hp1)) ?_
          intro w6 H6
          rw [Nat.zero_add, putAt_left (by rw [hp.at hp1, hdel.pl.len]; have : (i + 1) * 4 ≤ qs.length * 4 := Nat.mul_le_mul_right _ (by omega); omega), hdel.pl.set_ (by omega) (hp.at hp1)] at H6
          refine ops_nil ?_
          refine nR42 ?_
          refine run_region ?_
          refine ops_val (ex_move rfl) ?_
          refine ops_val (ex_add rfl rfl (IntWalk.i64_in _ (by omega))) ?_
          refine ops_val (ex_assign rfl) ?_
          refine ops_nil ?_
          refine nR42 ?_
          refine run_nil (blk_normal ?_)
          refine run_region ?_
          refine ops_val (ex_move rfl) ?_
          refine ops_val (ex_add rfl rfl (IntWalk.i64_in _ (by omega))) ?_
          refine ops_val (ex_assign rfl) ?_
          refine ops_nil ?_
          refine nR42 ?_
          refine run_nil (rnd_normal ?_)
          exact ⟨ps.length - (jj + 1), by omega, i + 1, jj + 1, _, _, qs.set i p1, rfl, (fs (fs (fn (fn (fn (fs (fs (fn (fn (fn (fn (fn (fn (fn (fn (fn (fn (fn (fn (fn (fn (fn (fn (fn (fn (fn (fn (fn (fn (fn (fn (fn (fn (fn (fn (fn (fn (fn (fn (fn (fn (fn f0)))))))))))))))))))))))))))))))))))))))))), by omega, by omega, hdel.keep hp1 (by simpa using hb29) (hp.at hp1), H6.pick [0] (by decide)⟩
        · skip
          refine run_skip ?_
          refine run_nil (blk_normal ?_)
          refine run_region ?_
          refine ops_val (ex_move rfl) ?_
          refine ops_val (ex_add rfl rfl (IntWalk.i64_in _ (by omega))) ?_
          refine ops_val (ex_assign rfl) ?_
          refine ops_nil ?_
          refine nR42 ?_
          refine run_nil (rnd_normal ?_)
          exact ⟨ps.length - (jj + 1), by omega, i, jj + 1, _, _, qs, rfl, (fs (fs (fn (fn (fn (fs (fs (fn (fn (fn (fn (fn (fn (fn (fn (fn (fn (fn (fn (fn (fn (fn (fn (fn (fn (fn (fn (fn (fn (fn (fn (fn (fn (fn (fn (fn (fn (fn (fn (fn (fn (fn f0)))))))))))))))))))))))))))))))))))))))))), rfl, by omega, hdel.skip hp1 (by simpa using hb29), H5.pick [0] (by decide)⟩
      · obtain rfl : jj = ps.length := by omega
        refine ops_nil ?_
        refine nR42 ?_
        refine run_cond_false rfl ?_
        refine run_exit ?_
        refine rnd_exit ?_
        refine blk_exit ?_
        refine run_seq ?_
        refine run_region ?_
        refine ops_val (ex_move rfl) ?_
        refine ops_val (ex_move rfl) ?_
        have hdn := hdel.done
        refine ops_val (ex_lo Try.underlying35 ty41 rfl rfl rfl (by omega) (by omega)) ?_
        rw [addn]
        have hfit : 0 + i * 4 + (ps.length - i) * 4 ≤ (qs.flatten ++ sp).length := by
          rw [List.length_append, hdel.pl.len, hqn, Nat.zero_add, ← Nat.add_mul, show i + (ps.length - i) = ps.length by omega]; omega
        refine ops_clear Try.underlying35 ty41 H2 0 rfl rfl hfit rfl ?_
        intro w3 H3
        refine ops_nil ?_
        refine nR42 ?_
        refine run_seq ?_
        refine run_region ?_
        refine ops_val (ex_move rfl) ?_
        refine ops_val (ex_move rfl) ?_
        refine ops_val (ex_hi Try.underlying35 ty41 rfl rfl rfl (by omega)) ?_
        refine ops_val (ex_assign rfl) ?_
        refine ops_nil ?_
        refine nR42 ?_
        refine run_ret ?_
        refine fin_ret1 rfl rfl ?_
        have hpl := putAt_len (cs := qs.flatten ++ sp) (vs := initL [.int .i64 0, .int .i64 0, .int .i64 0, .slice none 0 0] (ps.length - i)) (o := 0 + i * 4) (by rw [initL_length]; exact hfit)
        rw [hdel.cells rfl] at hpl
        have HZ := H3
        change Hp _ _ _ [((some gx, 41, putAt (qs.flatten ++ sp) (0 + i * 4) _) : Ent)] at HZ
        rw [hdel.cells rfl] at HZ
        refine ⟨_, by rw [hdn.2], ?_, HZ⟩
        rw [hpl, List.length_append, List.length_append, hdel.pl.len, hp.len, hqn]
set_option maxRecDepth 100000 in
set_option maxHeartbeats 4000000 in
theorem indexE (A : Option Addr) (c : Nat) (ps : List (List Value)) (n k gc : Nat) (hn : ps.length = n) (pr : List Value → Bool) (w0 : World) (hp : Pl 2 ps) (hr : Rd w0 A ps.length 2 ps.flatten) (hl : ps.length ≤ 4611686018427387904) (hk : Prd Try.prog k gc pr ps w0) :
    Does Try.prog 59 #[.slice A n c, .func (.func k) #[] #[.pointer (some ⟨gc, 0, none⟩)]] w0 (fun r w' => ∃ y : Int, r = .int .i64 y ∧ IdxR ps pr y ∧ Hp w0 w' [] []) := by
  refine does_of Try.func59 Try.ntmps59 rfl ?_
  refine nR19 ?_
  subst hn
  have H := Hp.refl w0
  refine run_seq ?_
  refine run_region ?_
  refine ops_val (ex_assign rfl) ?_
  refine ops_nil ?_
  refine nR19 ?_
  refine run_seq ?_
  refine run_seq ?_
  refine run_region ?_
  refine ops_val (ex_move rfl) ?_
  refine ops_val (ex_len_slice Try.underlying37 rfl) ?_
  refine ops_val (ex_move rfl) ?_
  refine ops_nil ?_
  refine nR19 ?_
  refine run_block ?_
  refine run_loop (fun nQ lQ w => ∃ (jj : Nat) (y : Int), ps.length - jj = nQ ∧ Fits [some (.slice A ps.length c), some (.func (.func k) #[] #[.pointer (some ⟨gc, 0, none⟩)]), none, none, none, none, none, some (.int .i64 (ps.length : Int)), some (.int .i64 y), none, none, none, none, none, none, none, none, none, none] lQ ∧ y = (jj : Int) ∧ jj ≤ ps.length ∧ (∀ q ∈ ps.take jj, pr q = false) ∧ Hp w0 w [] []) (ps.length) ?_ ?_
  · exact ⟨0, _, rfl, (fs (fs (fn (fn (fn (fn (fn (fs (fs (fn (fn (fn (fn (fn (fn (fn (fn (fn (fn f0))))))))))))))))))), rfl, Nat.zero_le _, fun q hq => by simp at hq, H⟩
  · rintro nQ lQ w1 ⟨jj, y, rfl, hfit, rfl, hj, hno, H1⟩
    obtain ⟨j, rfl⟩ := hfit.open
    refine nR19 ?_
    clear hfit
    refine run_seq ?_
    refine run_region ?_
    refine ops_test (ex_lss rfl rfl) (fun hp9 => ?_) (fun hp9 => ?_)
    · have hjl : jj < ps.length := by omega
      obtain ⟨p1, hp1⟩ := get_of hjl
      obtain ⟨a1, ha1⟩ := hr.some_ (by omega)
      subst ha1
      refine ops_nil ?_
      refine nR19 ?_
      refine run_seq ?_
      refine run_cond_true rfl ?_
      refine run_skip ?_
      refine run_seq ?_
      refine run_block ?_
      refine run_seq ?_
      refine run_region ?_
      refine ops_val (ex_move rfl) ?_
      refine ops_val (ex_assign rfl) ?_
      refine ops_nil ?_
      refine nR19 ?_
      refine run_seq ?_
      refine run_region ?_
      refine ops_val (ex_move rfl) ?_
      refine ops_val (ex_move rfl) ?_
      refine ops_val (ex_move rfl) ?_
      refine ops_val (ex_idx Try.underlying37 ty44 rfl rfl rfl hjl rfl) ?_
      refine nO19 ?_
      refine ops_val (ex_loadN ty44 rfl (vs := p1) (hp.at hp1) ((hr.to0 H1).elem hp hp1)) ?_
      refine ops_call_val (ex_call_val hk.1 rfl rfl) (hk.2.2 w1 (H1.frame gc hk.2.1 (by simp)) p1 (mem_of hp1)) ?_
      intro w2 Hd
      have H2 := H1.callN Hd
      refine ops_nil ?_
      refine nR19 ?_
      refine run_cond rfl (fun hb16 => ?_) (fun hb16 => ?_)
      · skip
        refine run_seq ?_
        refine run_region ?_
        refine ops_val (ex_move rfl) ?_
        refine ops_val (ex_assign rfl) ?_
        refine ops_nil ?_
        refine nR19 ?_
        refine run_ret ?_
        refine blk_ret ?_
        refine rnd_ret ?_
        refine blk_ret ?_
        refine fin_ret1 rfl rfl ?_
        exact ⟨_, rfl, .inr ⟨jj, p1, rfl, hp1, hb16, hno⟩, H2.noRows⟩
      · skip
        refine run_skip ?_
        refine run_nil (blk_normal ?_)
        refine run_region ?_
        refine ops_val (ex_add rfl rfl (IntWalk.i64_in _ (by omega))) ?_
        refine ops_val (ex_move rfl) ?_
        refine ops_nil ?_
        refine nR19 ?_
        refine run_nil (rnd_normal ?_)
        exact ⟨ps.length - (jj + 1), by omega, jj + 1, _, rfl, (fs (fs (fn (fn (fn (fn (fn (fs (fs (fn (fn (fn (fn (fn (fn (fn (fn (fn (fn f0))))))))))))))))))), by omega, by omega, take_all_snoc hno hp1 hb16, H2⟩
    · obtain rfl : jj = ps.length := by omega
      refine ops_nil ?_
      refine nR19 ?_
      refine run_seq ?_
      refine run_cond_false rfl ?_
      refine run_exit ?_
      refine rnd_exit ?_
      refine blk_exit ?_
      refine run_seq ?_
      refine run_region ?_
      refine ops_val (ex_assign rfl) ?_
      refine ops_nil ?_
      refine nR19 ?_
      refine run_ret ?_
      refine fin_ret1 rfl rfl ?_
      exact ⟨_, rfl, .inl ⟨rfl, by rw [List.take_length] at hno; exact hno⟩, H1.noRows⟩
set_option maxRecDepth 100000 in
set_option maxHeartbeats 4000000 in
theorem deleteE (g : Option Nat) (cap n : Nat) (ps : List (List Value)) (hn : ps.length = n) (sp : List Value) (k gc : Nat) (pr : List Value → Bool) (w0 : World) (H0 : Hp w0 w0 (bl [((g, 44, ps.flatten ++ sp) : Ent)]) [((g, 44, ps.flatten ++ sp) : Ent)]) (hp : Pl 2 ps) (ho : ∀ p ∈ ps, p.all (·.oneCell') = true) (hl : ps.length ≤ cap) (hl2 : ps.length ≤ 4611686018427387903) (hcz : cap * 2 ≤ (ps.flatten ++ sp).length) (hk : Prd Try.prog k gc pr ps w0) (hgc : gc ∉ bl [((g, 44, ps.flatten ++ sp) : Ent)]) :
    Does Try.prog 44 #[.slice (hd g) n cap, .func (.func k) #[] #[.pointer (some ⟨gc, 0, none⟩)]] w0 (fun r w' => ∃ sp', r = .slice (hd g) (ps.filter fun p => !pr p).length cap ∧ ((ps.filter fun p => !pr p).flatten ++ sp').length = (ps.flatten ++ sp).length ∧ Hp w0 w' (bl [((g, 44, ps.flatten ++ sp) : Ent)]) [((g, 44, (ps.filter fun p => !pr p).flatten ++ sp') : Ent)]) := by
  refine does_of Try.func44 Try.ntmps44 rfl ?_
  refine nR42 ?_
  subst hn
  have H := H0
  refine run_seq ?_
  refine run_region ?_
  refine ops_val (ex_assign rfl) ?_
  refine ops_nil ?_
  refine nR42 ?_
  refine run_seq ?_
  refine run_region ?_
  refine ops_val (ex_move rfl) ?_
  refine ops_val (ex_move rfl) ?_
  refine ops_call (ex_call gf59 rfl) (indexE (hd g) cap ps _ k gc rfl pr _ hp (H.rd (i := 0) rfl hp.len (by decide)) (by omega) hk) ?_
  rintro r w1 ⟨y, rfl, hix, Hd⟩
  have H1 := H.callN Hd
  refine ops_val (ex_assign rfl) ?_
  refine ops_nil ?_
  refine nR42 ?_
  refine run_seq ?_
  refine run_seq ?_
  refine run_region ?_
  refine ops_val (ex_move rfl) ?_
  refine ops_test (ex_eql rfl rfl) (fun hp12 => ?_) (fun hp12 => ?_)
  · have hnone : ∀ p ∈ ps, pr p = false := by
      rcases hix with ⟨_, h⟩ | ⟨jj, p, h, _⟩
      · exact h
      · omega
    refine ops_nil ?_
    refine nR42 ?_
    refine run_cond_true rfl ?_
    refine run_seq ?_
    refine run_region ?_
    refine ops_val (ex_move rfl) ?_
    refine ops_val (ex_assign rfl) ?_
    refine ops_nil ?_
    refine nR42 ?_
    refine run_ret ?_
    refine fin_ret1 rfl rfl ?_
    exact ⟨sp, by rw [filter_none hnone], by rw [filter_none hnone], by rw [filter_none hnone]; exact H1⟩
  · obtain ⟨j0, p0, rfl, hj0, ht0, hn0⟩ : ∃ (jj : Nat) (p : List Value), y = (jj : Int) ∧ ps[jj]? = some p ∧ pr p = true ∧ ∀ q ∈ ps.take jj, pr q = false := by
      rcases hix with ⟨h, _⟩ | h
      · omega
      · exact h
    have hj0l := lt_of_get hj0
    obtain ⟨gx, rfl⟩ := own_some H1 (i := 0) rfl (by rw [List.length_append, hp.len]; have : 0 < ps.length * 2 := Nat.mul_pos (by omega) (by decide); omega)
    clear hix
    refine ops_nil ?_
    refine nR42 ?_
    refine run_cond_false rfl ?_
    refine run_skip ?_
    refine run_seq ?_
    refine run_seq ?_
    refine run_region ?_
    refine ops_val (ex_move rfl) ?_
    refine ops_val (ex_add rfl rfl (IntWalk.i64_in _ (by omega))) ?_
    refine ops_val (ex_assign rfl) ?_
    refine ops_nil ?_
    refine nR42 ?_
    refine run_block ?_
    refine run_loop (fun nQ lQ w => ∃ (i jj : Nat) (y z : Int) (qs : List (List Value)), ps.length - jj = nQ ∧ Fits [some (.slice (hd (some gx)) ps.length cap), some (.func (.func k) #[] #[.pointer (some ⟨gc, 0, none⟩)]), none, none, none, some (.int .i64 y), some (.int .i64 z), none, none, none, none, none, none, none, none, none, none, none, none, none, none, none, none, none, none, none, none, none, none, none, none, none, none, none, none, none, none, none, none, none, none, none] lQ ∧ y = (i : Int) ∧ z = (jj : Int) ∧ Del ps qs pr i jj 2 ∧ Hp w0 w (bl [((some gx, 44, ps.flatten ++ sp) : Ent)]) [((some gx, 44, qs.flatten ++ sp) : Ent)]) (ps.length - (j0 + 1)) ?_ ?_
    · exact ⟨j0, j0 + 1, _, _, ps, rfl, (fs (fs (fn (fn (fn (fs (fs (fn (fn (fn (fn (fn (fn (fn (fn (fn (fn (fn (fn (fn (fn (fn (fn (fn (fn (fn (fn (fn (fn (fn (fn (fn (fn (fn (fn (fn (fn (fn (fn (fn (fn (fn f0)))))))))))))))))))))))))))))))))))))))))), rfl, by omega, Del.start hp hj0 ht0 hn0, H1⟩
    · rintro nQ lQ w2 ⟨i, jj, y, z, qs, rfl, hfit, rfl, rfl, hdel, H2⟩
      obtain ⟨j, rfl⟩ := hfit.open
      refine nR42 ?_
      clear hfit
      have hdl := hdel.lt
      have hde := hdel.le
      have hqn := hdel.len
      refine run_seq ?_
      refine run_seq ?_
      refine run_region ?_
      refine ops_val (ex_move rfl) ?_
      refine ops_val (ex_move rfl) ?_
      refine ops_val (ex_len_slice Try.underlying37 rfl) ?_
      refine ops_test (ex_lss rfl rfl) (fun hp19 => ?_) (fun hp19 => ?_)
      · have hjl : jj < ps.length := by omega
        obtain ⟨p1, hp1⟩ := get_of hjl
        have hq1 : qs[jj]? = some p1 := hdel.at.trans hp1
        refine ops_nil ?_
        refine nR42 ?_
        refine run_cond_true rfl ?_
        refine run_skip ?_
        refine run_seq ?_
        refine run_block ?_
        refine run_seq ?_
        refine run_region ?_
        refine ops_val (ex_move rfl) ?_
        refine ops_val (ex_move rfl) ?_
        refine ops_val (ex_idx Try.underlying37 ty44 rfl rfl rfl hjl rfl) ?_
        refine ops_val (ex_loadN ty44 rfl (vs := p1) (hp.at hp1) (H2.elem (k := 0) rfl hdel.pl hq1)) ?_
        refine nO42 ?_
        refine ops_alloc ty44 H2 ?_
        intro w3 g3 H3 hg3
        refine ops_store ty44 H3 1 rfl rfl rfl rfl (hp.at hp1) (by rw [hp.at hp1]; decide) (ho p1 (mem_of hp1)) ?_
        intro w4 H4
        rw [putAt_all (by rw [hp.at hp1]; rfl)] at H4
        refine ops_nil ?_
        refine nR42 ?_
        refine run_seq ?_
        refine run_region ?_
        refine ops_val (ex_move rfl) ?_
        refine ops_val (ex_loadN ty44 rfl (vs := p1) (hp.at hp1) (H4.cellsR (i := 1) rfl (by rw [List.drop_zero, List.take_length]))) ?_
        refine ops_call_val (ex_call_val hk.1 rfl rfl) (hk.2.2 w4 (H4.frame gc hk.2.1 hgc) p1 (mem_of hp1)) ?_
        intro w5 Hd
        have H5 := H4.callN Hd
        refine ops_val (ex_not rfl) ?_
        refine ops_nil ?_
        refine nR42 ?_
        refine run_cond rfl (fun hb29 => ?_) (fun hb29 => ?_)
        · skip
          refine run_seq ?_
          refine run_region ?_
          refine ops_val (ex_move rfl) ?_
          refine ops_val (ex_move rfl) ?_
          refine ops_val (ex_loadN ty44 rfl (vs := p1) (hp.at hp1) (H5.cellsR (i := 1) rfl (by rw [List.drop_zero, List.take_length]))) ?_
          refine ops_val (ex_idxN Try.underlying37 ty44 rfl rfl rfl (by omega)) ?_
          refine nO42 ?_
          refine ops_store ty44 H5 0 rfl rfl rfl rfl (hp.at hp1) (by rw [hp.at hp1, List.length_append, hdel.pl.len, Nat.zero_add]; have : (i + 1) * 2 ≤ qs.length * 2 := Nat.mul_le_mul_right _ (by omega); omega) (ho p1 (mem_of hp1)) ?_
          intro w6 H6
          rw [Nat.zero_add, putAt_left (by rw [hp.at hp1, hdel.pl.len]; have : (i + 1) * 2 ≤ qs.length * 2 := Nat.mul_le_mul_right _ (by omega); omega), hdel.pl.set_ (by omega) (hp.at hp1)] at H6
          refine ops_nil ?_
          refine nR42 ?_
          refine run_region ?_
          refine ops_val (ex_move rfl) ?_
          refine ops_val (ex_add rfl rfl (IntWalk.i64_in _ (by omega))) ?_
          refine ops_val (ex_assign rfl) ?_
          refine ops_nil ?_
          refine nR42 ?_
          refine run_nil (blk_normal ?_)
          refine run_region ?_
          refine ops_val (ex_move rfl) ?_
          refine ops_val (ex_add rfl rfl (IntWalk.i64_in _ (by omega))) ?_
          refine ops_val (ex_assign rfl) ?_
          refine ops_nil ?_
          refine nR42 ?_
          refine run_nil (rnd_normal ?_)
          exact ⟨ps.length - (jj + 1), by omega, i + 1, jj + 1, _, _, qs.set i p1, rfl, (fs (fs (fn (fn (fn (fs (fs (fn (fn (fn (fn (fn (fn (fn (fn (fn (fn (fn (fn (fn (fn (fn (fn (fn (fn (fn (fn (fn (fn (fn (fn (fn (fn (fn (fn (fn (fn (fn (fn (fn (fn (fn f0)))))))))))))))))))))))))))))))))))))))))), by omega, by omega, hdel.keep hp1 (by simpa using hb29) (hp.at hp1), H6.pick [0] (by decide)⟩
        · skip
          refine run_skip ?_
          refine run_nil (blk_normal ?_)
          refine run_region ?_
          refine ops_val (ex_move rfl) ?_
          refine ops_val (ex_add rfl rfl (IntWalk.i64_in _ (by omega))) ?_
          refine ops_val (ex_assign rfl) ?_
          refine ops_nil ?_
          refine nR42 ?_
          refine run_nil (rnd_normal ?_)
          exact ⟨ps.length - (jj + 1), by omega, i, jj + 1, _, _, qs, rfl, (fs (fs (fn (fn (fn (fs (fs (fn (fn (fn (fn (fn (fn (fn (fn (fn (fn (fn (fn (fn (fn (fn (fn (fn (fn (fn (fn (fn (fn (fn (fn (fn (fn (fn (fn (fn (fn (fn (fn (fn (fn (fn f0)))))))))))))))))))))))))))))))))))))))))), rfl, by omega, hdel.skip hp1 (by simpa using hb29), H5.pick [0] (by decide)⟩
      · obtain rfl : jj = ps.length := by omega
        refine ops_nil ?_
        refine nR42 ?_
        refine run_cond_false rfl ?_
        refine run_exit ?_
        refine rnd_exit ?_
        refine blk_exit ?_
        refine run_seq ?_
        refine run_region ?_
        refine ops_val (ex_move rfl) ?_
        refine ops_val (ex_move rfl) ?_
        have hdn := hdel.done
        refine ops_val (ex_lo Try.underlying37 ty44 rfl rfl rfl (by omega) (by omega)) ?_
        rw [addn]
        have hfit : 0 + i * 2 + (ps.length - i) * 2 ≤ (qs.flatten ++ sp).length := by
          rw [List.length_append, hdel.pl.len, hqn, Nat.zero_add, ← Nat.add_mul, show i + (ps.length - i) = ps.length by omega]; omega
        refine ops_clear Try.underlying37 ty44 H2 0 rfl rfl hfit rfl ?_
        intro w3 H3
        refine ops_nil ?_
        refine nR42 ?_
        refine run_seq ?_
        refine run_region ?_
        refine ops_val (ex_move rfl) ?_
        refine ops_val (ex_move rfl) ?_
        refine ops_val (ex_hi Try.underlying37 ty44 rfl rfl rfl (by omega)) ?_
        refine ops_val (ex_assign rfl) ?_
        refine ops_nil ?_
        refine nR42 ?_
        refine run_ret ?_
        refine fin_ret1 rfl rfl ?_
        have hpl := putAt_len (cs := qs.flatten ++ sp) (vs := initL [.int .i64 0, .slice none 0 0] (ps.length - i)) (o := 0 + i * 2) (by rw [initL_length]; exact hfit)
        rw [hdel.cells rfl] at hpl
        have HZ := H3
        change Hp _ _ _ [((some gx, 44, putAt (qs.flatten ++ sp) (0 + i * 2) _) : Ent)] at HZ
        rw [hdel.cells rfl] at HZ
        refine ⟨_, by rw [hdn.2], ?_, HZ⟩
        rw [hpl, List.length_append, List.length_append, hdel.pl.len, hp.len, hqn]
set_option maxRecDepth 100000 in
set_option maxHeartbeats 4000000 in
theorem indexM (A : Option Addr) (c : Nat) (ps : List (List Value)) (n k gc : Nat) (hn : ps.length = n) (pr : List Value → Bool) (w0 : World) (hp : Pl 7 ps) (hr : Rd w0 A ps.length 7 ps.flatten) (hl : ps.length ≤ 4611686018427387904) (hk : Prd Try.prog k gc pr ps w0) :
    Does Try.prog 32 #[.slice A n c, .func (.func k) #[] #[.pointer (some ⟨gc, 0, none⟩)]] w0 (fun r w' => ∃ y : Int, r = .int .i64 y ∧ IdxR ps pr y ∧ Hp w0 w' [] []) := by
  refine does_of Try.func32 Try.ntmps32 rfl ?_
  refine nR19 ?_
  subst hn
  have H := Hp.refl w0
  refine run_seq ?_
  refine run_region ?_
  refine ops_val (ex_assign rfl) ?_
  refine ops_nil ?_
  refine nR19 ?_
  refine run_seq ?_
  refine run_seq ?_
  refine run_region ?_
  refine ops_val (ex_move rfl) ?_
  refine ops_val (ex_len_slice Try.underlying26 rfl) ?_
  refine ops_val (ex_move rfl) ?_
  refine ops_nil ?_
  refine nR19 ?_
  refine run_block ?_
  refine run_loop (fun nQ lQ w => ∃ (jj : Nat) (y : Int), ps.length - jj = nQ ∧ Fits [some (.slice A ps.length c), some (.func (.func k) #[] #[.pointer (some ⟨gc, 0, none⟩)]), none, none, none, none, none, some (.int .i64 (ps.length : Int)), some (.int .i64 y), none, none, none, none, none, none, none, none, none, none] lQ ∧ y = (jj : Int) ∧ jj ≤ ps.length ∧ (∀ q ∈ ps.take jj, pr q = false) ∧ Hp w0 w [] []) (ps.length) ?_ ?_
  · exact ⟨0, _, rfl, (fs (fs (fn (fn (fn (fn (fn (fs (fs (fn (fn (fn (fn (fn (fn (fn (fn (fn (fn f0))))))))))))))))))), rfl, Nat.zero_le _, fun q hq => by simp at hq, H⟩
  · rintro nQ lQ w1 ⟨jj, y, rfl, hfit, rfl, hj, hno, H1⟩
    obtain ⟨j, rfl⟩ := hfit.open
    refine nR19 ?_
    clear hfit
    refine run_seq ?_
    refine run_region ?_
    refine ops_test (ex_lss rfl rfl) (fun hp9 => ?_) (fun hp9 => ?_)
    · have hjl : jj < ps.length := by omega
      obtain ⟨p1, hp1⟩ := get_of hjl
      obtain ⟨a1, ha1⟩ := hr.some_ (by omega)
      subst ha1
      refine ops_nil ?_
      refine nR19 ?_
      refine run_seq ?_
      refine run_cond_true rfl ?_
      refine run_skip ?_
      refine run_seq ?_
      refine run_block ?_
      refine run_seq ?_
      refine run_region ?_
      refine ops_val (ex_move rfl) ?_
      refine ops_val (ex_assign rfl) ?_
      refine ops_nil ?_
      refine nR19 ?_
      refine run_seq ?_
      refine run_region ?_
      refine ops_val (ex_move rfl) ?_
      refine ops_val (ex_move rfl) ?_
      refine ops_val (ex_move rfl) ?_
      refine ops_val (ex_idx Try.underlying26 ty62 rfl rfl rfl hjl rfl) ?_
      refine nO19 ?_
      refine ops_val (ex_loadN ty62 rfl (vs := p1) (hp.at hp1) ((hr.to0 H1).elem hp hp1)) ?_
      refine ops_call_val (ex_call_val hk.1 rfl rfl) (hk.2.2 w1 (H1.frame gc hk.2.1 (by simp)) p1 (mem_of hp1)) ?_
      intro w2 Hd
      have H2 := H1.callN Hd
      refine ops_nil ?_
      refine nR19 ?_
      refine run_cond rfl (fun hb16 => ?_) (fun hb16 => ?_)
      · skip
        refine run_seq ?_
        refine run_region ?_
        refine ops_val (ex_move rfl) ?_
        refine ops_val (ex_assign rfl) ?_
        refine ops_nil ?_
        refine nR19 ?_
        refine run_ret ?_
        refine blk_ret ?_
        refine rnd_ret ?_
        refine blk_ret ?_
        refine fin_ret1 rfl rfl ?_
        exact ⟨_, rfl, .inr ⟨jj, p1, rfl, hp1, hb16, hno⟩, H2.noRows⟩
      · skip
        refine run_skip ?_
        refine run_nil (blk_normal ?_)
        refine run_region ?_
        refine ops_val (ex_add rfl rfl (IntWalk.i64_in _ (by omega))) ?_
        refine ops_val (ex_move rfl) ?_
        refine ops_nil ?_
        refine nR19 ?_
        refine run_nil (rnd_normal ?_)
        exact ⟨ps.length - (jj + 1), by omega, jj + 1, _, rfl, (fs (fs (fn (fn (fn (fn (fn (fs (fs (fn (fn (fn (fn (fn (fn (fn (fn (fn (fn f0))))))))))))))))))), by omega, by omega, take_all_snoc hno hp1 hb16, H2⟩
    · obtain rfl : jj = ps.length := by omega
      refine ops_nil ?_
      refine nR19 ?_
      refine run_seq ?_
      refine run_cond_false rfl ?_
      refine run_exit ?_
      refine rnd_exit ?_
      refine blk_exit ?_
      refine run_seq ?_
      refine run_region ?_
      refine ops_val (ex_assign rfl) ?_
      refine ops_nil ?_
      refine nR19 ?_
      refine run_ret ?_
      refine fin_ret1 rfl rfl ?_
      exact ⟨_, rfl, .inl ⟨rfl, by rw [List.take_length] at hno; exact hno⟩, H1.noRows⟩
set_option maxRecDepth 100000 in
set_option maxHeartbeats 4000000 in
theorem deleteM (g : Option Nat) (cap n : Nat) (ps : List (List Value)) (hn : ps.length = n) (sp : List Value) (k gc : Nat) (pr : List Value → Bool) (w0 : World) (H0 : Hp w0 w0 (bl [((g, 62, ps.flatten ++ sp) : Ent)]) [((g, 62, ps.flatten ++ sp) : Ent)]) (hp : Pl 7 ps) (ho : ∀ p ∈ ps, p.all (·.oneCell') = true) (hl : ps.length ≤ cap) (hl2 : ps.length ≤ 4611686018427387903) (hcz : cap * 7 ≤ (ps.flatten ++ sp).length) (hk : Prd Try.prog k gc pr ps w0) (hgc : gc ∉ bl [((g, 62, ps.flatten ++ sp) : Ent)]) :
    Does Try.prog 15 #[.slice (hd g) n cap, .func (.func k) #[] #[.pointer (some ⟨gc, 0, none⟩)]] w0 (fun r w' => ∃ sp', r = .slice (hd g) (ps.filter fun p => !pr p).length cap ∧ ((ps.filter fun p => !pr p).flatten ++ sp').length = (ps.flatten ++ sp).length ∧ Hp w0 w' (bl [((g, 62, ps.flatten ++ sp) : Ent)]) [((g, 62, (ps.filter fun p => !pr p).flatten ++ sp') : Ent)]) := by
  refine does_of Try.func15 Try.ntmps15 rfl ?_
  refine nR42 ?_
  subst hn
  have H := H0
  refine run_seq ?_
  refine run_region ?_
  refine ops_val (ex_assign rfl) ?_
  refine ops_nil ?_
  refine nR42 ?_
  refine run_seq ?_
  refine run_region ?_
  refine ops_val (ex_move rfl) ?_
  refine ops_val (ex_move rfl) ?_
  refine ops_call (ex_call gf32 rfl) (indexM (hd g) cap ps _ k gc rfl pr _ hp (H.rd (i := 0) rfl hp.len (by decide)) (by omega) hk) ?_
  rintro r w1 ⟨y, rfl, hix, Hd⟩
  have H1 := H.callN Hd
  refine ops_val (ex_assign rfl) ?_
  refine ops_nil ?_
  refine nR42 ?_
  refine run_seq ?_
  refine run_seq ?_
  refine run_region ?_
  refine ops_val (ex_move rfl) ?_
  refine ops_test (ex_eql rfl rfl) (fun hp12 => ?_) (fun hp12 => ?_)
  · have hnone : ∀ p ∈ ps, pr p = false := by
      rcases hix with ⟨_, h⟩ | ⟨jj, p, h, _⟩
      · exact h
      · omega
    refine ops_nil ?_
    refine nR42 ?_
    refine run_cond_true rfl ?_
    refine run_seq ?_
    refine run_region ?_
    refine ops_val (ex_move rfl) ?_
    refine ops_val (ex_assign rfl) ?_
    refine ops_nil ?_
    refine nR42 ?_
    refine run_ret ?_
    refine fin_ret1 rfl rfl ?_
    exact ⟨sp, by rw [filter_none hnone], by rw [filter_none hnone], by rw [filter_none hnone]; exact H1⟩
  · obtain ⟨j0, p0, rfl, hj0, ht0, hn0⟩ : ∃ (jj : Nat) (p : List Value), y = (jj : Int) ∧ ps[jj]? = some p ∧ pr p = true ∧ ∀ q ∈ ps.take jj, pr q = false := by
      rcases hix with ⟨h, _⟩ | h
      · omega
      · exact h
    have hj0l := lt_of_get hj0
    obtain ⟨gx, rfl⟩ := own_some H1 (i := 0) rfl (by rw [List.length_append, hp.len]; have : 0 < ps.length * 7 := Nat.mul_pos (by omega) (by decide); omega)
    clear hix
    refine ops_nil ?_
    refine nR42 ?_
    refine run_cond_false rfl ?_
    refine run_skip ?_
    refine run_seq ?_
    refine run_seq ?_
    refine run_region ?_
    refine ops_val (ex_move rfl) ?_
    refine ops_val (ex_add rfl rfl (IntWalk.i64_in _ (by omega))) ?_
    refine ops_val (ex_assign rfl) ?_
    refine ops_nil ?_
    refine nR42 ?_
    refine run_block ?_
    refine run_loop (fun nQ lQ w => ∃ (i jj : Nat) (y z : Int) (qs : List (List Value)), ps.length - jj = nQ ∧ Fits [some (.slice (hd (some gx)) ps.length cap), some (.func (.func k) #[] #[.pointer (some ⟨gc, 0, none⟩)]), none, none, none, some (.int .i64 y), some (.int .i64 z), none, none, none, none, none, none, none, none, none, none, none, none, none, none, none, none, none, none, none, none, none, none, none, none, none, none, none, none, none, none, none, none, none, none, none] lQ ∧ y = (i : Int) ∧ z = (jj : Int) ∧ Del ps qs pr i jj 7 ∧ Hp w0 w (bl [((some gx, 62, ps.flatten ++ sp) : Ent)]) [((some gx, 62, qs.flatten ++ sp) : Ent)]) (ps.length - (j0 + 1)) ?_ ?_
    · exact ⟨j0, j0 + 1, _, _, ps, rfl, (fs (fs (fn (fn (fn (fs (fs (fn (fn (fn (fn (fn (fn (fn (fn (fn (fn (fn (fn (fn (fn (fn (fn (fn (fn (fn (fn (fn (fn (fn (fn (fn (fn (fn (fn (fn (fn (fn (fn (fn (fn (fn f0)))))))))))))))))))))))))))))))))))))))))), rfl, by omega, Del.start hp hj0 ht0 hn0, H1⟩
    · rintro nQ lQ w2 ⟨i, jj, y, z, qs, rfl, hfit, rfl, rfl, hdel, H2⟩
      obtain ⟨j, rfl⟩ := hfit.open
      refine nR42 ?_
      clear hfit
      have hdl := hdel.lt
      have hde := hdel.le
      have hqn := hdel.len
      refine run_seq ?_
      refine run_seq ?_
      refine run_region ?_
      refine ops_val (ex_move rfl) ?_
      refine ops_val (ex_move rfl) ?_
      refine ops_val (ex_len_slice Try.underlying26 rfl) ?_
      refine ops_test (ex_lss rfl rfl) (fun hp19 => ?_) (fun hp19 => ?_)
      · have hjl : jj < ps.length := by omega
        obtain ⟨p1, hp1⟩ := get_of hjl
        have hq1 : qs[jj]? = some p1 := hdel.at.trans hp1
        refine ops_nil ?_
        refine nR42 ?_
        refine run_cond_true rfl ?_
        refine run_skip ?_
        refine run_seq ?_
        refine run_block ?_
        refine run_seq ?_
        refine run_region ?_
        refine ops_val (ex_move rfl) ?_
        refine ops_val (ex_move rfl) ?_
        refine ops_val (ex_idx Try.underlying26 ty62 rfl rfl rfl hjl rfl) ?_
        refine ops_val (ex_loadN ty62 rfl (vs := p1) (hp.at hp1) (H2.elem (k := 0) rfl hdel.pl hq1)) ?_
        refine nO42 ?_
        refine ops_alloc ty62 H2 ?_
        intro w3 g3 H3 hg3
        refine ops_store ty62 H3 1 rfl rfl rfl rfl (hp.at hp1) (by rw [hp.at hp1]; decide) (ho p1 (mem_of hp1)) ?_
        intro w4 H4
        rw [putAt_all (by rw [hp.at hp1]; rfl)] at H4
        refine ops_nil ?_
        refine nR42 ?_
        refine run_seq ?_
        refine run_region ?_
        refine ops_val (ex_move rfl) ?_
        refine ops_val (ex_loadN ty62 rfl (vs := p1) (hp.at hp1) (H4.cellsR (i := 1) rfl (by rw [List.drop_zero, List.take_length]))) ?_
        refine ops_call_val (ex_call_val hk.1 rfl rfl) (hk.2.2 w4 (H4.frame gc hk.2.1 hgc) p1 (mem_of hp1)) ?_
        intro w5 Hd
        have H5 := H4.callN Hd
        refine ops_val (ex_not rfl) ?_
        refine ops_nil ?_
        refine nR42 ?_
        refine run_cond rfl (fun hb29 => ?_) (fun hb29 => ?_)
        · skip
          refine run_seq ?_
          refine run_region ?_
          refine ops_val (ex_move rfl) ?_
          refine ops_val (ex_move rfl) ?_
          refine ops_val (ex_loadN ty62 rfl (vs := p1) (hp.at hp1) (H5.cellsR (i := 1) rfl (by rw [List.drop_zero, List.take_length]))) ?_
          refine ops_val (ex_idxN Try.underlying26 ty62 rfl rfl rfl (by omega)) ?_
          refine nO42 ?_
          refine ops_store ty62 H5 0 rfl rfl rfl rfl (hp.at hp1) (by rw [hp.at hp1, List.length_append, hdel.pl.len, Nat.zero_add]; have : (i + 1) * 7 ≤ qs.length * 7 := Nat.mul_le_mul_right _ (by omega); omega) (ho p1 (mem_of hp1)) ?_
          intro w6 H6
          rw [Nat.zero_add, putAt_left (by rw [hp.at hp1, hdel.pl.len]; have : (i + 1) * 7 ≤ qs.length * 7 := Nat.mul_le_mul_right _ (by omega); omega), hdel.pl.set_ (by omega) (hp.at hp1)] at H6
          refine ops_nil ?_
          refine nR42 ?_
          refine run_region ?_
          refine ops_val (ex_move rfl) ?_
          refine ops_val (ex_add rfl rfl (IntWalk.i64_in _ (by omega))) ?_
          refine ops_val (ex_assign rfl) ?_
          refine ops_nil ?_
          refine nR42 ?_
          refine run_nil (blk_normal ?_)
          refine run_region ?_
          refine ops_val (ex_move rfl) ?_
          refine ops_val (ex_add rfl rfl (IntWalk.i64_in _ (by omega))) ?_
          refine ops_val (ex_assign rfl) ?_
          refine ops_nil ?_
          refine nR42 ?_
          refine run_nil (rnd_normal ?_)
          exact ⟨ps.length - (jj + 1), by omega, i + 1, jj + 1, _, _, qs.set i p1, rfl, (fs (fs (fn (fn (fn (fs (fs (fn (fn (fn (fn (fn (fn (fn (fn (fn (fn (fn (fn (fn (fn (fn (fn (fn (fn (fn (fn (fn (fn (fn (fn (fn (fn (fn (fn (fn (fn (fn (fn (fn (fn (fn f0)))))))))))))))))))))))))))))))))))))))))), by omega, by omega, hdel.keep hp1 (by simpa using hb29) (hp.at hp1), H6.pick [0] (by decide)⟩
        · skip
          refine run_skip ?_
          refine run_nil (blk_normal ?_)
          refine run_region ?_
          refine ops_val (ex_move rfl) ?_
          refine ops_val (ex_add rfl rfl (IntWalk.i64_in _ (by omega))) ?_
          refine ops_val (ex_assign rfl) ?_
          refine ops_nil ?_
          refine nR42 ?_
          refine run_nil (rnd_normal ?_)
          exact ⟨ps.length - (jj + 1), by omega, i, jj + 1, _, _, qs, rfl, (fs (fs (fn (fn (fn (fs (fs (fn (fn (fn (fn (fn (fn (fn (fn (fn (fn (fn (fn (fn (fn (fn (fn (fn (fn (fn (fn (fn (fn (fn (fn (fn (fn (fn (fn (fn (fn (fn (fn (fn (fn (fn f0)))))))))))))))))))))))))))))))))))))))))), rfl, by omega, hdel.skip hp1 (by simpa using hb29), H5.pick [0] (by decide)⟩
      · obtain rfl : jj = ps.length := by omega
        refine ops_nil ?_
        refine nR42 ?_
        refine run_cond_false rfl ?_
        refine run_exit ?_
        refine rnd_exit ?_
        refine blk_exit ?_
        refine run_seq ?_
        refine run_region ?_
        refine ops_val (ex_move rfl) ?_
        refine ops_val (ex_move rfl) ?_
        have hdn := hdel.done
        refine ops_val (ex_lo Try.underlying26 ty62 rfl rfl rfl (by omega) (by omega)) ?_
        rw [addn]
        have hfit : 0 + i * 7 + (ps.length - i) * 7 ≤ (qs.flatten ++ sp).length := by
          rw [List.length_append, hdel.pl.len, hqn, Nat.zero_add, ← Nat.add_mul, show i + (ps.length - i) = ps.length by omega]; omega
        refine ops_clear Try.underlying26 ty62 H2 0 rfl rfl hfit rfl ?_
        intro w3 H3
        refine ops_nil ?_
        refine nR42 ?_
        refine run_seq ?_
        refine run_region ?_
        refine ops_val (ex_move rfl) ?_
        refine ops_val (ex_move rfl) ?_
        refine ops_val (ex_hi Try.underlying26 ty62 rfl rfl rfl (by omega)) ?_
        refine ops_val (ex_assign rfl) ?_
        refine ops_nil ?_
        refine nR42 ?_
        refine run_ret ?_
        refine fin_ret1 rfl rfl ?_
        have hpl := putAt_len (cs := qs.flatten ++ sp) (vs := initL [.int .i64 0, .int .i64 0, .bool false, .int .i64 0, .int .i64 0, .int .i64 0, .int .i64 0] (ps.length - i)) (o := 0 + i * 7) (by rw [initL_length]; exact hfit)
        rw [hdel.cells rfl] at hpl
        have HZ := H3
        change Hp _ _ _ [((some gx, 62, putAt (qs.flatten ++ sp) (0 + i * 7) _) : Ent)] at HZ
        rw [hdel.cells rfl] at HZ
        refine ⟨_, by rw [hdn.2], ?_, HZ⟩
        rw [hpl, List.length_append, List.length_append, hdel.pl.len, hp.len, hqn]
end Go.Proofs.Ytbninklfoogmdaa
