/-
  Parts of the walk, one behind the other.
-/
import Derived.Test.YtjoeklkmnfaabaaGreatK2
/- Walks of layer 2, printed by wip/gen/codec.py. -/
namespace Go.Proofs.YtjoeklkmnfaabaaGreat
open Go Go.RowKit
set_option linter.unusedVariables false
attribute [local irreducible] Still Ops Does Cd
set_option maxRecDepth 100000 in
set_option maxHeartbeats 4000000 in
theorem indexV (A : Option Addr) (c : Nat) (ps : List (List Value)) (n k gc : Nat) (hn : ps.length = n) (pr : List Value → Bool) (w0 : World) (hp : Pl 4 ps) (hr : Rd w0 A ps.length 4 ps.flatten) (hl : ps.length ≤ 4611686018427387904) (hk : Prd Tryz.prog k gc pr ps w0) :
    Does Tryz.prog 213 #[.slice A n c, .func (.func k) #[] #[.pointer (some ⟨gc, 0, none⟩)]] w0 (fun r w' => ∃ y : Int, r = .int .i64 y ∧ IdxR ps pr y ∧ Hp w0 w' [] []) := by
  refine does_of Tryz.func213 Tryz.ntmps213 rfl ?_
  refine nR19 ?_
  subst hn
  have H := Hp.refl w0
  refine run_seq ?_
  refine run_region ?_
  refine ops_val (ex_assign rfl) ?_
  refine ops_nil ?_
  refine nR19 ?_
  refine run_seq ?_
  refine run_seq ?_
  refine run_region ?_
  refine ops_val (ex_move rfl) ?_
  refine ops_val (ex_len_slice Tryz.underlying94 rfl) ?_
  refine ops_val (ex_move rfl) ?_
  refine ops_nil ?_
  refine nR19 ?_
  refine run_block ?_
  refine run_loop (fun nQ lQ w => ∃ (jj : Nat) (y : Int), ps.length - jj = nQ ∧ Fits [some (.slice A ps.length c), some (.func (.func k) #[] #[.pointer (some ⟨gc, 0, none⟩)]), none, none, none, none, none, some (.int .i64 (ps.length : Int)), some (.int .i64 y), none, none, none, none, none, none, none, none, none, none] lQ ∧ y = (jj : Int) ∧ jj ≤ ps.length ∧ (∀ q ∈ ps.take jj, pr q = false) ∧ Hp w0 w [] []) (ps.length) ?_ ?_
  · exact ⟨0, _, rfl, (fs (fs (fn (fn (fn (fn (fn (fs (fs (fn (fn (fn (fn (fn (fn (fn (fn (fn (fn f0))))))))))))))))))), rfl, Nat.zero_le _, fun q hq => by simp at hq, H⟩
  · rintro nQ lQ w1 ⟨jj, y, rfl, hfit, rfl, hj, hno, H1⟩
    obtain ⟨j, rfl⟩ := hfit.open
    refine nR19 ?_
    clear hfit
    refine run_seq ?_
    refine run_region ?_
    refine ops_test (ex_lss rfl rfl) (fun hp9 => ?_) (fun hp9 => ?_)
    · have hjl : jj < ps.length := by omega
      obtain ⟨p1, hp1⟩ := get_of hjl
      obtain ⟨a1, ha1⟩ := hr.some_ (by omega)
      subst ha1
      refine ops_nil ?_
      refine nR19 ?_
      refine run_seq ?_
      refine run_cond_true rfl ?_
      refine run_skip ?_
      refine run_seq ?_
      refine run_block ?_
      refine run_seq ?_
      refine run_region ?_
      refine ops_val (ex_move rfl) ?_
      refine ops_val (ex_assign rfl) ?_
      refine ops_nil ?_
      refine nR19 ?_
      refine run_seq ?_
      refine run_region ?_
      refine ops_val (ex_move rfl) ?_
      refine ops_val (ex_move rfl) ?_
      refine ops_val (ex_move rfl) ?_
      refine ops_val (ex_idx Tryz.underlying94 ty77 rfl rfl rfl hjl rfl) ?_
      refine nO19 ?_
      refine ops_val (ex_loadN ty77 rfl (vs := p1) (hp.at hp1) ((hr.to0 H1).elem hp hp1)) ?_
      refine ops_call_val (ex_call_val hk.1 rfl rfl) (hk.2.2 w1 (H1.frame gc hk.2.1 (by simp)) p1 (mem_of hp1)) ?_
      intro w2 Hd
      have H2 := H1.callN Hd
      refine ops_nil ?_
      refine nR19 ?_
      refine run_cond rfl (fun hb16 => ?_) (fun hb16 => ?_)
      · skip
        refine run_seq ?_
        refine run_region ?_
        refine ops_val (ex_move rfl) ?_
        refine ops_val (ex_assign rfl) ?_
        refine ops_nil ?_
        refine nR19 ?_
        refine run_ret ?_
        refine blk_ret ?_
        refine rnd_ret ?_
        refine blk_ret ?_
        refine fin_ret1 rfl rfl ?_
        exact ⟨_, rfl, .inr ⟨jj, p1, rfl, hp1, hb16, hno⟩, H2.noRows⟩
      · skip
        refine run_skip ?_
        refine run_nil (blk_normal ?_)
        refine run_region ?_
        refine ops_val (ex_add rfl rfl (IntWalk.i64_in _ (by omega))) ?_
        refine ops_val (ex_move rfl) ?_
        refine ops_nil ?_
        refine nR19 ?_
        refine run_nil (rnd_normal ?_)
        exact ⟨ps.length - (jj + 1), by omega, jj + 1, _, rfl, (fs (fs (fn (fn (fn (fn (fn (fs (fs (fn (fn (fn (fn (fn (fn (fn (fn (fn (fn f0))))))))))))))))))), by omega, by omega, take_all_snoc hno hp1 hb16, H2⟩
    · obtain rfl : jj = ps.length := by omega
      refine ops_nil ?_
      refine nR19 ?_
      refine run_seq ?_
      refine run_cond_false rfl ?_
      refine run_exit ?_
      refine rnd_exit ?_
      refine blk_exit ?_
      refine run_seq ?_
      refine run_region ?_
      refine ops_val (ex_assign rfl) ?_
      refine ops_nil ?_
      refine nR19 ?_
      refine run_ret ?_
      refine fin_ret1 rfl rfl ?_
      exact ⟨_, rfl, .inl ⟨rfl, by rw [List.take_length] at hno; exact hno⟩, H1.noRows⟩
set_option maxRecDepth 100000 in
set_option maxHeartbeats 4000000 in
theorem deleteV (g : Option Nat) (cap n : Nat) (ps : List (List Value)) (hn : ps.length = n) (sp : List Value) (k gc : Nat) (pr : List Value → Bool) (w0 : World) (H0 : Hp w0 w0 (bl [((g, 77, ps.flatten ++ sp) : Ent)]) [((g, 77, ps.flatten ++ sp) : Ent)]) (hp : Pl 4 ps) (ho : ∀ p ∈ ps, p.all (·.oneCell') = true) (hl : ps.length ≤ cap) (hl2 : ps.length ≤ 4611686018427387903) (hcz : cap * 4 ≤ (ps.flatten ++ sp).length) (hk : Prd Tryz.prog k gc pr ps w0) (hgc : gc ∉ bl [((g, 77, ps.flatten ++ sp) : Ent)]) :
    Does Tryz.prog 194 #[.slice (hd g) n cap, .func (.func k) #[] #[.pointer (some ⟨gc, 0, none⟩)]] w0 (fun r w' => ∃ sp', r = .slice (hd g) (ps.filter fun p => !pr p).length cap ∧ ((ps.filter fun p => !pr p).flatten ++ sp').length = (ps.flatten ++ sp).length ∧ Hp w0 w' (bl [((g, 77, ps.flatten ++ sp) : Ent)]) [((g, 77, (ps.filter fun p => !pr p).flatten ++ sp') : Ent)]) := by
  refine does_of Tryz.func194 Tryz.ntmps194 rfl ?_
  refine nR42 ?_
  subst hn
  have H := H0
  refine run_seq ?_
  refine run_region ?_
  refine ops_val (ex_assign rfl) ?_
  refine ops_nil ?_
  refine nR42 ?_
  refine run_seq ?_
  refine run_region ?_
  refine ops_val (ex_move rfl) ?_
  refine ops_val (ex_move rfl) ?_
  refine ops_call (ex_call gf213 rfl) (indexV (hd g) cap ps _ k gc rfl pr _ hp (H.rd (i := 0) rfl hp.len (by decide)) (by omega) hk) ?_
  rintro r w1 ⟨y, rfl, hix, Hd⟩
  have H1 := H.callN Hd
  refine ops_val (ex_assign rfl) ?_
  refine ops_nil ?_
  refine nR42 ?_
  refine run_seq ?_
  refine run_seq ?_
  refine run_region ?_
  refine ops_val (ex_move rfl) ?_
  refine ops_test (ex_eql rfl rfl) (fun hp12 => ?_) (fun hp12 => ?_)
  · have hnone : ∀ p ∈ ps, pr p = false := by
      rcases hix with ⟨_, h⟩ | ⟨jj, p, h, _⟩
      · exact h
      · omega
    refine ops_nil ?_
    refine nR42 ?_
    refine run_cond_true rfl ?_
    refine run_seq ?_
    refine run_region ?_
    refine ops_val (ex_move rfl) ?_
    refine ops_val (ex_assign rfl) ?_
    refine ops_nil ?_
    refine nR42 ?_
    refine run_ret ?_
    refine fin_ret1 rfl rfl ?_
    exact ⟨sp, by rw [filter_none hnone], by rw [filter_none hnone], by rw [filter_none hnone]; exact H1⟩
  · obtain ⟨j0, p0, rfl, hj0, ht0, hn0⟩ : ∃ (jj : Nat) (p : List Value), y = (jj : Int) ∧ ps[jj]? = some p ∧ pr p = true ∧ ∀ q ∈ ps.take jj, pr q = false := by
      rcases hix with ⟨h, _⟩ | h
      · omega
      · exact h
    have hj0l := lt_of_get hj0
    obtain ⟨gx, rfl⟩ := own_some H1 (i := 0) rfl (by rw [List.length_append, hp.len]; have : 0 < ps.length * 4 := Nat.mul_pos (by omega) (by decide); omega)
    clear hix
    refine ops_nil ?_
    refine nR42 ?_
    refine run_cond_false rfl ?_
    refine run_skip ?_
    refine run_seq ?_
    refine run_seq ?_
    refine run_region ?_
    refine ops_val (ex_move rfl) ?_
    refine ops_val (ex_add rfl rfl (IntWalk.i64_in _ (by omega))) ?_
    refine ops_val (ex_assign rfl) ?_
    refine ops_nil ?_
    refine nR42 ?_
    refine run_block ?_
    refine run_loop (fun nQ lQ w => ∃ (i jj : Nat) (y z : Int) (qs : List (List Value)), ps.length - jj = nQ ∧ Fits [some (.slice (hd (some gx)) ps.length cap), some (.func (.func k) #[] #[.pointer (some ⟨gc, 0, none⟩)]), none, none, none, some (.int .i64 y), some (.int .i64 z), none, none, none, none, none, none, none, none, none, none, none, none, none, none, none, none, none, none, none, none, none, none, none, none, none, none, none, none, none, none, none, none, none, none, none] lQ ∧ y = (i : Int) ∧ z = (jj : Int) ∧ Del ps qs pr i jj 4 ∧ Hp w0 w (bl [((some gx, 77, ps.flatten ++ sp) : Ent)]) [((some gx, 77, qs.flatten ++ sp) : Ent)]) (ps.length - (j0 + 1)) ?_ ?_
    · exact ⟨j0, j0 + 1, _, _, ps, rfl, (fs (fs (fn (fn (fn (fs (fs (fn (fn (fn (fn (fn (fn (fn (fn (fn (fn (fn (fn (fn (fn (fn (fn (fn (fn (fn (fn (fn (fn (fn (fn (fn (fn (fn (fn (fn (fn (fn (fn (fn (fn (fn f0)))))))))))))))))))))))))))))))))))))))))), rfl, by omega, Del.start hp hj0 ht0 hn0, H1⟩
    · rintro nQ lQ w2 ⟨i, jj, y, z, qs, rfl, hfit, rfl, rfl, hdel, H2⟩
      obtain ⟨j, rfl⟩ := hfit.open
      refine nR42 ?_
      clear hfit
      have hdl := hdel.lt
      have hde := hdel.le
      have hqn := hdel.len
      refine run_seq ?_
      refine run_seq ?_
      refine run_region ?_
      refine ops_val (ex_move rfl) ?_
      refine ops_val (ex_move rfl) ?_
      refine ops_val (ex_len_slice Tryz.underlying94 rfl) ?_
      refine ops_test (ex_lss rfl rfl) (fun hp19 => ?_) (fun hp19 => ?_)
      · have hjl : jj < ps.length := by omega
        obtain ⟨p1, hp1⟩ := get_of hjl
        have hq1 : qs[jj]? = some p1 := hdel.at.trans hp1
        refine ops_nil ?_
        refine nR42 ?_
        refine run_cond_true rfl ?_
        refine run_skip ?_
        refine run_seq ?_
        refine run_block ?_
        refine run_seq ?_
        refine run_region ?_
        refine ops_val (ex_move rfl) ?_
        refine ops_val (ex_move rfl) ?_
        refine ops_val (ex_idx Tryz.underlying94 ty77 rfl rfl rfl hjl rfl) ?_
        refine ops_val (ex_loadN ty77 rfl (vs := p1) (hp.at hp1) (H2.elem (k := 0) rfl hdel.pl hq1)) ?_
        refine nO42 ?_
        refine ops_alloc ty77 H2 ?_
        intro w3 g3 H3 hg3
        refine ops_store ty77 H3 1 rfl rfl rfl rfl (hp.at hp1) (by rw [hp.at hp1]; decide) (ho p1 (mem_of hp1)) ?_
        intro w4 H4
        rw [putAt_all (by rw [hp.at hp1]; rfl)] at H4
        refine ops_nil ?_
        refine nR42 ?_
        refine run_seq ?_
        refine run_region ?_
        refine ops_val (ex_move rfl) ?_
        refine ops_val (ex_loadN ty77 rfl (vs := p1) (hp.at hp1) (H4.cellsR (i := 1) rfl (by rw [List.drop_zero, List.take_length]))) ?_
        refine ops_call_val (ex_call_val hk.1 rfl rfl) (hk.2.2 w4 (H4.frame gc hk.2.1 hgc) p1 (mem_of hp1)) ?_
        intro w5 Hd
        have H5 := H4.callN Hd
        refine ops_val (ex_not rfl) ?_
        refine ops_nil ?_
        refine nR42 ?_
        refine run_cond rfl (fun hb29 => ?_) (fun hb29 => ?_)
        · skip
          refine run_seq ?_
          refine run_region ?_
          refine ops_val (ex_move rfl) ?_
          refine ops_val (ex_move rfl) ?_
          refine ops_val (ex_loadN ty77 rfl (vs := p1) (hp.at hp1) (H5.cellsR (i := 1) rfl (by rw [List.drop_zero, List.take_length]))) ?_
          refine ops_val (ex_idxN Tryz.underlying94 ty77 rfl rfl rfl (by omega)) ?_
          refine nO42 ?_
          refine ops_store ty77 H5 0 rfl rfl rfl rfl (hp.at hp1) (by rw [hp.at hp1, List.length_append, hdel.pl.len, Nat.zero_add]; have : (i + 1) * 4 ≤ qs.length * 4 := Nat.mul_le_mul_right _ (by omega); omega) (ho p1 (mem_of hp1)) ?_
          intro w6 H6
          rw [Nat.zero_add, putAt_left (by rw [hp.at hp1, hdel.pl.len]; have : (i + 1) * 4 ≤ qs.length * 4 := Nat.mul_le_mul_right _ (by omega); omega), hdel.pl.set_ (by omega) (hp.at hp1)] at H6
          refine ops_nil ?_
          refine nR42 ?_
          refine run_region ?_
          refine ops_val (ex_move rfl) ?_
          refine ops_val (ex_add rfl rfl (IntWalk.i64_in _ (by omega))) ?_
          refine ops_val (ex_assign rfl) ?_
          refine ops_nil ?_
          refine nR42 ?_
          refine run_nil (blk_normal ?_)
          refine run_region ?_
          refine ops_val (ex_move rfl) ?_
          refine ops_val (ex_add rfl rfl (IntWalk.i64_in _ (by omega))) ?_
          refine ops_val (ex_assign rfl) ?_
          refine ops_nil ?_
          refine nR42 ?_
          refine run_nil (rnd_normal ?_)
          exact ⟨ps.length - (jj + 1), by omega, i + 1, jj + 1, _, _, qs.set i p1, rfl, (fs (fs (fn (fn (fn (fs (fs (fn (fn (fn (fn (fn (fn (fn (fn (fn (fn (fn (fn (fn (fn (fn (fn (fn (fn (fn (fn (fn (fn (fn (fn (fn (fn (fn (fn (fn (fn (fn (fn (fn (fn (fn f0)))))))))))))))))))))))))))))))))))))))))), by omega, by omega, hdel.keep hp1 (by simpa using hb29) (hp.at hp1), H6.pick [0] (by decide)⟩
        · skip
          refine run_skip ?_
          refine run_nil (blk_normal ?_)
          refine run_region ?_
          refine ops_val (ex_move rfl) ?_
          refine ops_val (ex_add rfl rfl (IntWalk.i64_in _ (by omega))) ?_
          refine ops_val (ex_assign rfl) ?_
          refine ops_nil ?_
          refine nR42 ?_
          refine run_nil (rnd_normal ?_)
          exact ⟨ps.length - (jj + 1), by omega, i, jj + 1, _, _, qs, rfl, (fs (fs (fn (fn (fn (fs (fs (fn (fn (fn (fn (fn (fn (fn (fn (fn (fn (fn (fn (fn (fn (fn (fn (fn (fn (fn (fn (fn (fn (fn (fn (fn (fn (fn (fn (fn (fn (fn (fn (fn (fn (fn f0)))))))))))))))))))))))))))))))))))))))))), rfl, by omega, hdel.skip hp1 (by simpa using hb29), H5.pick [0] (by decide)⟩
      · obtain rfl : jj = ps.length := by omega
        refine ops_nil ?_
        refine nR42 ?_
        refine run_cond_false rfl ?_
        refine run_exit ?_
        refine rnd_exit ?_
        refine blk_exit ?_
        refine run_seq ?_
        refine run_region ?_
        refine ops_val (ex_move rfl) ?_
        refine ops_val (ex_move rfl) ?_
        have hdn := hdel.done
        refine ops_val (ex_lo Tryz.underlying94 ty77 rfl rfl rfl (by omega) (by omega)) ?_
        rw [addn]
        have hfit : 0 + i * 4 + (ps.length - i) * 4 ≤ (qs.flatten ++ sp).length := by
          rw [List.length_append, hdel.pl.len, hqn, Nat.zero_add, ← Nat.add_mul, show i + (ps.length - i) = ps.length by omega]; omega
        refine ops_clear Tryz.underlying94 ty77 H2 0 rfl rfl hfit rfl ?_
        intro w3 H3
        refine ops_nil ?_
        refine nR42 ?_
        refine run_seq ?_
        refine run_region ?_
        refine ops_val (ex_move rfl) ?_
        refine ops_val (ex_move rfl) ?_
        refine ops_val (ex_hi Tryz.underlying94 ty77 rfl rfl rfl (by omega)) ?_
        refine ops_val (ex_assign rfl) ?_
        refine ops_nil ?_
        refine nR42 ?_
        refine run_ret ?_
        refine fin_ret1 rfl rfl ?_
        have hpl := putAt_len (cs := qs.flatten ++ sp) (vs := initL [.int .i64 0, .int .i64 0, .int .i64 0, .slice none 0 0] (ps.length - i)) (o := 0 + i * 4) (by rw [initL_length]; exact hfit)
        rw [hdel.cells rfl] at hpl
        have HZ := H3
        change Hp _ _ _ [((some gx, 77, putAt (qs.flatten ++ sp) (0 + i * 4) _) : Ent)] at HZ
        rw [hdel.cells rfl] at HZ
        refine ⟨_, by rw [hdn.2], ?_, HZ⟩
        rw [hpl, List.length_append, List.length_append, hdel.pl.len, hp.len, hqn]
set_option maxRecDepth 100000 in
set_option maxHeartbeats 4000000 in
theorem indexE (A : Option Addr) (c : Nat) (ps : List (List Value)) (n k gc : Nat) (hn : ps.length = n) (pr : List Value → Bool) (w0 : World) (hp : Pl 2 ps) (hr : Rd w0 A ps.length 2 ps.flatten) (hl : ps.length ≤ 4611686018427387904) (hk : Prd Tryz.prog k gc pr ps w0) :
    Does Tryz.prog 196 #[.slice A n c, .func (.func k) #[] #[.pointer (some ⟨gc, 0, none⟩)]] w0 (fun r w' => ∃ y : Int, r = .int .i64 y ∧ IdxR ps pr y ∧ Hp w0 w' [] []) := by
  refine does_of Tryz.func196 Tryz.ntmps196 rfl ?_
  refine nR19 ?_
  subst hn
  have H := Hp.refl w0
  refine run_seq ?_
  refine run_region ?_
  refine ops_val (ex_assign rfl) ?_
  refine ops_nil ?_
  refine nR19 ?_
  refine run_seq ?_
  refine run_seq ?_
  refine run_region ?_
  refine ops_val (ex_move rfl) ?_
  refine ops_val (ex_len_slice Tryz.underlying95 rfl) ?_
  refine ops_val (ex_move rfl) ?_
  refine ops_nil ?_
  refine nR19 ?_
  refine run_block ?_
  refine run_loop (fun nQ lQ w => ∃ (jj : Nat) (y : Int), ps.length - jj = nQ ∧ Fits [some (.slice A ps.length c), some (.func (.func k) #[] #[.pointer (some ⟨gc, 0, none⟩)]), none, none, none, none, none, some (.int .i64 (ps.length : Int)), some (.int .i64 y), none, none, none, none, none, none, none, none, none, none] lQ ∧ y = (jj : Int) ∧ jj ≤ ps.length ∧ (∀ q ∈ ps.take jj, pr q = false) ∧ Hp w0 w [] []) (ps.length) ?_ ?_
  · exact ⟨0, _, rfl, (fs (fs (fn (fn (fn (fn (fn (fs (fs (fn (fn (fn (fn (fn (fn (fn (fn (fn (fn f0))))))))))))))))))), rfl, Nat.zero_le _, fun q hq => by simp at hq, H⟩
  · rintro nQ lQ w1 ⟨jj, y, rfl, hfit, rfl, hj, hno, H1⟩
    obtain ⟨j, rfl⟩ := hfit.open
    refine nR19 ?_
    clear hfit
    refine run_seq ?_
    refine run_region ?_
    refine ops_test (ex_lss rfl rfl) (fun hp9 => ?_) (fun hp9 => ?_)
    · have hjl : jj < ps.length := by omega
      obtain ⟨p1, hp1⟩ := get_of hjl
      obtain ⟨a1, ha1⟩ := hr.some_ (by omega)
      subst ha1
      refine ops_nil ?_
      refine nR19 ?_
      refine run_seq ?_
      refine run_cond_true rfl ?_
      refine run_skip ?_
      refine run_seq ?_
      refine run_block ?_
      refine run_seq ?_
      refine run_region ?_
      refine ops_val (ex_move rfl) ?_
      refine ops_val (ex_assign rfl) ?_
      refine ops_nil ?_
      refine nR19 ?_
      refine run_seq ?_
      refine run_region ?_
      refine ops_val (ex_move rfl) ?_
      refine ops_val (ex_move rfl) ?_
      refine ops_val (ex_move rfl) ?_
      refine ops_val (ex_idx Tryz.underlying95 ty79 rfl rfl rfl hjl rfl) ?_
      refine nO19 ?_
      refine ops_val (ex_loadN ty79 rfl (vs := p1) (hp.at hp1) ((hr.to0 H1).elem hp hp1)) ?_
      refine ops_call_val (ex_call_val hk.1 rfl rfl) (hk.2.2 w1 (H1.frame gc hk.2.1 (by simp)) p1 (mem_of hp1)) ?_
      intro w2 Hd
      have H2 := H1.callN Hd
      refine ops_nil ?_
      refine nR19 ?_
      refine run_cond rfl (fun hb16 => ?_) (fun hb16 => ?_)
      · skip
        refine run_seq ?_
        refine run_region ?_
        refine ops_val (ex_move rfl) ?_
        refine ops_val (ex_assign rfl) ?_
        refine ops_nil ?_
        refine nR19 ?_
        refine run_ret ?_
        refine blk_ret ?_
        refine rnd_ret ?_
        refine blk_ret ?_
        refine fin_ret1 rfl rfl ?_
        exact ⟨_, rfl, .inr ⟨jj, p1, rfl, hp1, hb16, hno⟩, H2.noRows⟩
      · skip
        refine run_skip ?_
        refine run_nil (blk_normal ?_)
        refine run_region ?_
        refine ops_val (ex_add rfl rfl (IntWalk.i64_in _ (by omega))) ?_
        refine ops_val (ex_move rfl) ?_
        refine ops_nil ?_
        refine nR19 ?_
        refine run_nil (rnd_normal ?_)
        exact ⟨ps.length - (jj + 1), by omega, jj + 1, _, rfl, (fs (fs (fn (fn (fn (fn (fn (fs (fs (fn (fn (fn (fn (fn (fn (fn (fn (fn (fn f0))))))))))))))))))), by omega, by omega, take_all_snoc hno hp1 hb16, H2⟩
    · obtain rfl : jj = ps.length := by omega
      refine ops_nil ?_
      refine nR19 ?_
      refine run_seq ?_
      refine run_cond_false rfl ?_
      refine run_exit ?_
      refine rnd_exit ?_
      refine blk_exit ?_
      refine run_seq ?_
      refine run_region ?_
      refine ops_val (ex_assign rfl) ?_
      refine ops_nil ?_
      refine nR19 ?_
      refine run_ret ?_
      refine fin_ret1 rfl rfl ?_
      exact ⟨_, rfl, .inl ⟨rfl, by rw [List.take_length] at hno; exact hno⟩, H1.noRows⟩
set_option maxRecDepth 100000 in
set_option maxHeartbeats 4000000 in
theorem deleteE (g : Option Nat) (cap n : Nat) (ps : List (List Value)) (hn : ps.length = n) (sp : List Value) (k gc : Nat) (pr : List Value → Bool) (w0 : World) (H0 : Hp w0 w0 (bl [((g, 79, ps.flatten ++ sp) : Ent)]) [((g, 79, ps.flatten ++ sp) : Ent)]) (hp : Pl 2 ps) (ho : ∀ p ∈ ps, p.all (·.oneCell') = true) (hl : ps.length ≤ cap) (hl2 : ps.length ≤ 4611686018427387903) (hcz : cap * 2 ≤ (ps.flatten ++ sp).length) (hk : Prd Tryz.prog k gc pr ps w0) (hgc : gc ∉ bl [((g, 79, ps.flatten ++ sp) : Ent)]) :
    Does Tryz.prog 168 #[.slice (hd g) n cap, .func (.func k) #[] #[.pointer (some ⟨gc, 0, none⟩)]] w0 (fun r w' => ∃ sp', r = .slice (hd g) (ps.filter fun p => !pr p).length cap ∧ ((ps.filter fun p => !pr p).flatten ++ sp').length = (ps.flatten ++ sp).length ∧ Hp w0 w' (bl [((g, 79, ps.flatten ++ sp) : Ent)]) [((g, 79, (ps.filter fun p => !pr p).flatten ++ sp') : Ent)]) := by
  refine does_of Tryz.func168 Tryz.ntmps168 rfl ?_
  refine nR42 ?_
  subst hn
  have H := H0
  refine run_seq ?_
  refine run_region ?_
  refine ops_val (ex_assign rfl) ?_
  refine ops_nil ?_
  refine nR42 ?_
  refine run_seq ?_
  refine run_region ?_
  refine ops_val (ex_move rfl) ?_
  refine ops_val (ex_move rfl) ?_
  refine ops_call (ex_call gf196 rfl) (indexE (hd g) cap ps _ k gc rfl pr _ hp (H.rd (i := 0) rfl hp.len (by decide)) (by omega) hk) ?_
  rintro r w1 ⟨y, rfl, hix, Hd⟩
  have H1 := H.callN Hd
  refine ops_val (ex_assign rfl) ?_
  refine ops_nil ?_
  refine nR42 ?_
  refine run_seq ?_
  refine run_seq ?_
  refine run_region ?_
  refine ops_val (ex_move rfl) ?_
  refine ops_test (ex_eql rfl rfl) (fun hp12 => ?_) (fun hp12 => ?_)
  · have hnone : ∀ p ∈ ps, pr p = false := by
      rcases hix with ⟨_, h⟩ | ⟨jj, p, h, _⟩
      · exact h
      · omega
    refine ops_nil ?_
    refine nR42 ?_
    refine run_cond_true rfl ?_
    refine run_seq ?_
    refine run_region ?_
    refine ops_val (ex_move rfl) ?_
    refine ops_val (ex_assign rfl) ?_
    refine ops_nil ?_
    refine nR42 ?_
    refine run_ret ?_
    refine fin_ret1 rfl rfl ?_
    exact ⟨sp, by rw [filter_none hnone], by rw [filter_none hnone], by rw [filter_none hnone]; exact H1⟩
  · obtain ⟨j0, p0, rfl, hj0, ht0, hn0⟩ : ∃ (jj : Nat) (p : List Value), y = (jj : Int) ∧ ps[jj]? = some p ∧ pr p = true ∧ ∀ q ∈ ps.take jj, pr q = false := by
      rcases hix with ⟨h, _⟩ | h
      · omega
      · exact h
    have hj0l := lt_of_get hj0
    obtain ⟨gx, rfl⟩ := own_some H1 (i := 0) rfl (by rw [List.length_append, hp.len]; have : 0 < ps.length * 2 := Nat.mul_pos (by omega) (by decide); omega)
    clear hix
    refine ops_nil ?_
    refine nR42 ?_
    refine run_cond_false rfl ?_
    refine run_skip ?_
    refine run_seq ?_
    refine run_seq ?_
    refine run_region ?_
    refine ops_val (ex_move rfl) ?_
    refine ops_val (ex_add rfl rfl (IntWalk.i64_in _ (by omega))) ?_
    refine ops_val (ex_assign rfl) ?_
    refine ops_nil ?_
    refine nR42 ?_
    refine run_block ?_
    refine run_loop (fun nQ lQ w => ∃ (i jj : Nat) (y z : Int) (qs : List (List Value)), ps.length - jj = nQ ∧ Fits [some (.slice (hd (some gx)) ps.length cap), some (.func (.func k) #[] #[.pointer (some ⟨gc, 0, none⟩)]), none, none, none, some (.int .i64 y), some (.int .i64 z), none, none, none, none, none, none, none, none, none, none, none, none, none, none, none, none, none, none, none, none, none, none, none, none, none, none, none, none, none, none, none, none, none, none, none] lQ ∧ y = (i : Int) ∧ z = (jj : Int) ∧ Del ps qs pr i jj 2 ∧ Hp w0 w (bl [((some gx, 79, ps.flatten ++ sp) : Ent)]) [((some gx, 79, qs.flatten ++ sp) : Ent)]) (ps.length - (j0 + 1)) ?_ ?_
    · exact ⟨j0, j0 + 1, _, _, ps, rfl, (fs (fs (fn (fn (fn (fs (fs (fn (fn (fn (fn (fn (fn (fn (fn (fn (fn (fn (fn (fn (fn (fn (fn (fn (fn (fn (fn (fn (fn (fn (fn (fn (fn (fn (fn (fn (fn (fn (fn (fn (fn (fn f0)))))))))))))))))))))))))))))))))))))))))), rfl, by omega, Del.start hp hj0 ht0 hn0, H1⟩
    · rintro nQ lQ w2 ⟨i, jj, y, z, qs, rfl, hfit, rfl, rfl, hdel, H2⟩
      obtain ⟨j, rfl⟩ := hfit.open
      refine nR42 ?_
      clear hfit
      have hdl := hdel.lt
      have hde := hdel.le
      have hqn := hdel.len
      refine run_seq ?_
      refine run_seq ?_
      refine run_region ?_
      refine ops_val (ex_move rfl) ?_
      refine ops_val (ex_move rfl) ?_
      refine ops_val (ex_len_slice Tryz.underlying95 rfl) ?_
      refine ops_test (ex_lss rfl rfl) (fun hp19 => ?_) (fun hp19 => ?_)
      · have hjl : jj < ps.length := by omega
        obtain ⟨p1, hp1⟩ := get_of hjl
        have hq1 : qs[jj]? = some p1 := hdel.at.trans hp1
        refine ops_nil ?_
        refine nR42 ?_
        refine run_cond_true rfl ?_
        refine run_skip ?_
        refine run_seq ?_
        refine run_block ?_
        refine run_seq ?_
        refine run_region ?_
        refine ops_val (ex_move rfl) ?_
        refine ops_val (ex_move rfl) ?_
        refine ops_val (ex_idx Tryz.underlying95 ty79 rfl rfl rfl hjl rfl) ?_
        refine ops_val (ex_loadN ty79 rfl (vs := p1) (hp.at hp1) (H2.elem (k := 0) rfl hdel.pl hq1)) ?_
        refine nO42 ?_
        refine ops_alloc ty79 H2 ?_
        intro w3 g3 H3 hg3
        refine ops_store ty79 H3 1 rfl rfl rfl rfl (hp.at hp1) (by rw [hp.at hp1]; decide) (ho p1 (mem_of hp1)) ?_
        intro w4 H4
        rw [putAt_all (by rw [hp.at hp1]; rfl)] at H4
        refine ops_nil ?_
        refine nR42 ?_
        refine run_seq ?_
        refine run_region ?_
        refine ops_val (ex_move rfl) ?_
        refine ops_val (ex_loadN ty79 rfl (vs := p1) (hp.at hp1) (H4.cellsR (i := 1) rfl (by rw [List.drop_zero, List.take_length]))) ?_
        refine ops_call_val (ex_call_val hk.1 rfl rfl) (hk.2.2 w4 (H4.frame gc hk.2.1 hgc) p1 (mem_of hp1)) ?_
        intro w5 Hd
        have H5 := H4.callN Hd
        refine ops_val (ex_not rfl) ?_
        refine ops_nil ?_
        refine nR42 ?_
        refine run_cond rfl (fun hb29 => ?_) (fun hb29 => ?_)
        · skip
          refine run_seq ?_
          refine run_region ?_
          refine ops_val (ex_move rfl) ?_
          refine ops_val (ex_move rfl) ?_
          refine ops_val (ex_loadN ty79 rfl (vs := p1) (hp.at hp1) (H5.cellsR (i := 1) rfl (by rw [List.drop_zero, List.take_length]))) ?_
          refine ops_val (ex_idxN Tryz.underlying95 ty79 rfl rfl rfl (by omega)) ?_
          refine nO42 ?_
          refine ops_store ty79 H5 0 rfl rfl rfl rfl (hp.at hp1) (by rw [hp.at hp1, List.length_append, hdel.pl.len, Nat.zero_add]; have : (i + 1) * 2 ≤ qs.length * 2 := Nat.mul_le_mul_right _ (by omega); omega) (ho p1 (mem_of hp1)) ?_
          intro w6 H6
          rw [Nat.zero_add, putAt_left (by rw [hp.at hp1, hdel.pl.len]; have : (i + 1) * 2 ≤ qs.length * 2 := Nat.mul_le_mul_right _ (by omega); omega), hdel.pl.set_ (by omega) (hp.at hp1)] at H6
          refine ops_nil ?_
          refine nR42 ?_
          refine run_region ?_
          refine ops_val (ex_move rfl) ?_
          refine ops_val (ex_add rfl rfl (IntWalk.i64_in _ (by omega))) ?_
          refine ops_val (ex_assign rfl) ?_
          refine ops_nil ?_
          refine nR42 ?_
          refine run_nil (blk_normal ?_)
          refine run_region ?_
          refine ops_val (ex_move rfl) ?_
          refine ops_val (ex_add rfl rfl (IntWalk.i64_in _ (by omega))) ?_
          refine ops_val (ex_assign rfl) ?_
          refine ops_nil ?_
          refine nR42 ?_
          refine run_nil (rnd_normal ?_)
          exact ⟨ps.length - (jj + 1), by omega, i + 1, jj + 1, _, _, qs.set i p1, rfl, (fs (fs (fn (fn (fn (fs (fs (fn (fn (fn (fn (fn (fn (fn (fn (fn (fn (fn (fn (fn (fn (fn (fn (fn (fn (fn (fn (fn (fn (fn (fn (fn (fn (fn (fn (fn (fn (fn (fn (fn (fn (fn f0)))))))))))))))))))))))))))))))))))))))))), by omega, by omega, hdel.keep hp1 (by simpa using hb29) (hp.at hp1), H6.pick [0] (by decide)⟩
        · skip
          refine run_skip ?_
          refine run_nil (blk_normal ?_)
          refine run_region ?_
          refine ops_val (ex_move rfl) ?_
          refine ops_val (ex_add rfl rfl (IntWalk.i64_in _ (by omega))) ?_
          refine ops_val (ex_assign rfl) ?_
          refine ops_nil ?_
          refine nR42 ?_
          refine run_nil (rnd_normal ?_)
          exact ⟨ps.length - (jj + 1), by omega, i, jj + 1, _, _, qs, rfl, (fs (fs (fn (fn (fn (fs (fs (fn (fn (fn (fn (fn (fn (fn (fn (fn (fn (fn (fn (fn (fn (fn (fn (fn (fn (fn (fn (fn (fn (fn (fn (fn (fn (fn (fn (fn (fn (fn (fn (fn (fn (fn f0)))))))))))))))))))))))))))))))))))))))))), rfl, by omega, hdel.skip hp1 (by simpa using hb29), H5.pick [0] (by decide)⟩
      · obtain rfl : jj = ps.length := by omega
        refine ops_nil ?_
        refine nR42 ?_
        refine run_cond_false rfl ?_
        refine run_exit ?_
        refine rnd_exit ?_
        refine blk_exit ?_
        refine run_seq ?_
        refine run_region ?_
        refine ops_val (ex_move rfl) ?_
        refine ops_val (ex_move rfl) ?_
        have hdn := hdel.done
        refine ops_val (ex_lo Tryz.underlying95 ty79 rfl rfl rfl (by omega) (by omega)) ?_
        rw [addn]
        have hfit : 0 + i * 2 + (ps.length - i) * 2 ≤ (qs.flatten ++ sp).length := by
          rw [List.length_append, hdel.pl.len, hqn, Nat.zero_add, ← Nat.add_mul, show i + (ps.length - i) = ps.length by omega]; omega
        refine ops_clear Tryz.underlying95 ty79 H2 0 rfl rfl hfit rfl ?_
        intro w3 H3
        refine ops_nil ?_
        refine nR42 ?_
        refine run_seq ?_
        refine run_region ?_
        refine ops_val (ex_move rfl) ?_
        refine ops_val (ex_move rfl) ?_
        refine ops_val (ex_hi Tryz.underlying95 ty79 rfl rfl rfl (by omega)) ?_
        refine ops_val (ex_assign rfl) ?_
        refine ops_nil ?_
        refine nR42 ?_
        refine run_ret ?_
        refine fin_ret1 rfl rfl ?_
        have hpl := putAt_len (cs := qs.flatten ++ sp) (vs := initL [.int .i64 0, .slice none 0 0] (ps.length - i)) (o := 0 + i * 2) (by rw [initL_length]; exact hfit)
        rw [hdel.cells rfl] at hpl
        have HZ := H3
        change Hp _ _ _ [((some gx, 79, putAt (qs.flatten ++ sp) (0 + i * 2) _) : Ent)] at HZ
        rw [hdel.cells rfl] at HZ
        refine ⟨_, by rw [hdn.2], ?_, HZ⟩
        rw [hpl, List.length_append, List.length_append, hdel.pl.len, hp.len, hqn]
set_option maxRecDepth 100000 in
set_option maxHeartbeats 4000000 in
theorem indexM (A : Option Addr) (c : Nat) (ps : List (List Value)) (n k gc : Nat) (hn : ps.length = n) (pr : List Value → Bool) (w0 : World) (hp : Pl 7 ps) (hr : Rd w0 A ps.length 7 ps.flatten) (hl : ps.length ≤ 4611686018427387904) (hk : Prd Tryz.prog k gc pr ps w0) :
    Does Tryz.prog 159 #[.slice A n c, .func (.func k) #[] #[.pointer (some ⟨gc, 0, none⟩)]] w0 (fun r w' => ∃ y : Int, r = .int .i64 y ∧ IdxR ps pr y ∧ Hp w0 w' [] []) := by
  refine does_of Tryz.func159 Tryz.ntmps159 rfl ?_
  refine nR19 ?_
  subst hn
  have H := Hp.refl w0
  refine run_seq ?_
  refine run_region ?_
  refine ops_val (ex_assign rfl) ?_
  refine ops_nil ?_
  refine nR19 ?_
  refine run_seq ?_
  refine run_seq ?_
  refine run_region ?_
  refine ops_val (ex_move rfl) ?_
  refine ops_val (ex_len_slice Tryz.underlying39 rfl) ?_
  refine ops_val (ex_move rfl) ?_
  refine ops_nil ?_
  refine nR19 ?_
  refine run_block ?_
  refine run_loop (fun nQ lQ w => ∃ (jj : Nat) (y : Int), ps.length - jj = nQ ∧ Fits [some (.slice A ps.length c), some (.func (.func k) #[] #[.pointer (some ⟨gc, 0, none⟩)]), none, none, none, none, none, some (.int .i64 (ps.length : Int)), some (.int .i64 y), none, none, none, none, none, none, none, none, none, none] lQ ∧ y = (jj : Int) ∧ jj ≤ ps.length ∧ (∀ q ∈ ps.take jj, pr q = false) ∧ Hp w0 w [] []) (ps.length) ?_ ?_
  · exact ⟨0, _, rfl, (fs (fs (fn (fn (fn (fn (fn (fs (fs (fn (fn (fn (fn (fn (fn (fn (fn (fn (fn f0))))))))))))))))))), rfl, Nat.zero_le _, fun q hq => by simp at hq, H⟩
  · rintro nQ lQ w1 ⟨jj, y, rfl, hfit, rfl, hj, hno, H1⟩
    obtain ⟨j, rfl⟩ := hfit.open
    refine nR19 ?_
    clear hfit
    refine run_seq ?_
    refine run_region ?_
    refine ops_test (ex_lss rfl rfl) (fun hp9 => ?_) (fun hp9 => ?_)
    · have hjl : jj < ps.length := by omega
      obtain ⟨p1, hp1⟩ := get_of hjl
      obtain ⟨a1, ha1⟩ := hr.some_ (by omega)
      subst ha1
      refine ops_nil ?_
      refine nR19 ?_
      refine run_seq ?_
      refine run_cond_true rfl ?_
      refine run_skip ?_
      refine run_seq ?_
      refine run_block ?_
      refine run_seq ?_
      refine run_region ?_
      refine ops_val (ex_move rfl) ?_
      refine ops_val (ex_assign rfl) ?_
      refine ops_nil ?_
      refine nR19 ?_
      refine run_seq ?_
      refine run_region ?_
      refine ops_val (ex_move rfl) ?_
      refine ops_val (ex_move rfl) ?_
      refine ops_val (ex_move rfl) ?_
      refine ops_val (ex_idx Tryz.underlying39 ty110 rfl rfl rfl hjl rfl) ?_
      refine nO19 ?_
      refine ops_val (ex_loadN ty110 rfl (vs := p1) (hp.at hp1) ((hr.to0 H1).elem hp hp1)) ?_
      refine ops_call_val (ex_call_val hk.1 rfl rfl) (hk.2.2 w1 (H1.frame gc hk.2.1 (by simp)) p1 (mem_of hp1)) ?_
      intro w2 Hd
      have H2 := H1.callN Hd
      refine ops_nil ?_
      refine nR19 ?_
      refine run_cond rfl (fun hb16 => ?_) (fun hb16 => ?_)
      · skip
        refine run_seq ?_
        refine run_region ?_
        refine ops_val (ex_move rfl) ?_
        refine ops_val (ex_assign rfl) ?_
        refine ops_nil ?_
        refine nR19 ?_
        refine run_ret ?_
        refine blk_ret ?_
        refine rnd_ret ?_
        refine blk_ret ?_
        refine fin_ret1 rfl rfl ?_
        exact ⟨_, rfl, .inr ⟨jj, p1, rfl, hp1, hb16, hno⟩, H2.noRows⟩
      · skip
        refine run_skip ?_
        refine run_nil (blk_normal ?_)
        refine run_region ?_
        refine ops_val (ex_add rfl rfl (IntWalk.i64_in _ (by omega))) ?_
        refine ops_val (ex_move rfl) ?_
        refine ops_nil ?_
        refine nR19 ?_
        refine run_nil (rnd_normal ?_)
        exact ⟨ps.length - (jj + 1), by omega, jj + 1, _, rfl, (fs (fs (fn (fn (fn (fn (fn (fs (fs (fn (fn (fn (fn (fn (fn (fn (fn (fn (fn f0))))))))))))))))))), by omega, by omega, take_all_snoc hno hp1 hb16, H2⟩
    · obtain rfl : jj = ps.length := by omega
      refine ops_nil ?_
      refine nR19 ?_
      refine run_seq ?_
      refine run_cond_false rfl ?_
      refine run_exit ?_
      refine rnd_exit ?_
      refine blk_exit ?_
      refine run_seq ?_
      refine run_region ?_
      refine ops_val (ex_assign rfl) ?_
      refine ops_nil ?_
      refine nR19 ?_
      refine run_ret ?_
      refine fin_ret1 rfl rfl ?_
      exact ⟨_, rfl, .inl ⟨rfl, by rw [List.take_length] at hno; exact hno⟩, H1.noRows⟩
set_option maxRecDepth 100000 in
set_option maxHeartbeats 4000000 in
theorem deleteM (g : Option Nat) (cap n : Nat) (ps : List (List Value)) (hn : ps.length = n) (sp : List Value) (k gc : Nat) (pr : List Value → Bool) (w0 : World) (H0 : Hp w0 w0 (bl [((g, 110, ps.flatten ++ sp) : Ent)]) [((g, 110, ps.flatten ++ sp) : Ent)]) (hp : Pl 7 ps) (ho : ∀ p ∈ ps, p.all (·.oneCell') = true) (hl : ps.length ≤ cap) (hl2 : ps.length ≤ 4611686018427387903) (hcz : cap * 7 ≤ (ps.flatten ++ sp).length) (hk : Prd Tryz.prog k gc pr ps w0) (hgc : gc ∉ bl [((g, 110, ps.flatten ++ sp) : Ent)]) :
    Does Tryz.prog 113 #[.slice (hd g) n cap, .func (.func k) #[] #[.pointer (some ⟨gc, 0, none⟩)]] w0 (fun r w' => ∃ sp', r = .slice (hd g) (ps.filter fun p => !pr p).length cap ∧ ((ps.filter fun p => !pr p).flatten ++ sp').length = (ps.flatten ++ sp).length ∧ Hp w0 w' (bl [((g, 110, ps.flatten ++ sp) : Ent)]) [((g, 110, (ps.filter fun p => !pr p).flatten ++ sp') : Ent)]) := by
  refine does_of Tryz.func113 Tryz.ntmps113 rfl ?_
  refine nR42 ?_
  subst hn
  have H := H0
  refine run_seq ?_
  refine run_region ?_
  refine ops_val (ex_assign rfl) ?_
  refine ops_nil ?_
  refine nR42 ?_
  refine run_seq ?_
  refine run_region ?_
  refine ops_val (ex_move rfl) ?_
  refine ops_val (ex_move rfl) ?_
  refine ops_call (ex_call gf159 rfl) (indexM (hd g) cap ps _ k gc rfl pr _ hp (H.rd (i := 0) rfl hp.len (by decide)) (by omega) hk) ?_
  rintro r w1 ⟨y, rfl, hix, Hd⟩
  have H1 := H.callN Hd
  refine ops_val (ex_assign rfl) ?_
  refine ops_nil ?_
  refine nR42 ?_
  refine run_seq ?_
  refine run_seq ?_
  refine run_region ?_
  refine ops_val (ex_move rfl) ?_
  refine ops_test (ex_eql rfl rfl) (fun hp12 => ?_) (fun hp12 => ?_)
  · have hnone : ∀ p ∈ ps, pr p = false := by
      rcases hix with ⟨_, h⟩ | ⟨jj, p, h, _⟩
      · exact h
      · omega
    refine ops_nil ?_
    refine nR42 ?_
    refine run_cond_true rfl ?_
    refine run_seq ?_
    refine run_region ?_
    refine ops_val (ex_move rfl) ?_
    refine ops_val (ex_assign rfl) ?_
    refine ops_nil ?_
    refine nR42 ?_
    refine run_ret ?_
    refine fin_ret1 rfl rfl ?_
    exact ⟨sp, by rw [filter_none hnone], by rw [filter_none hnone], by rw [filter_none hnone]; exact H1⟩
  · obtain ⟨j0, p0, rfl, hj0, ht0, hn0⟩ : ∃ (jj : Nat) (p : List Value), y = (jj : Int) ∧ ps[jj]? = some p ∧ pr p = true ∧ ∀ q ∈ ps.take jj, pr q = false := by
      rcases hix with ⟨h, _⟩ | h
      · omega
      · exact h
    have hj0l := lt_of_get hj0
    obtain ⟨gx, rfl⟩ := own_some H1 (i := 0) rfl (by rw [List.length_append, hp.len]; have : 0 < ps.length * 7 := Nat.mul_pos (by omega) (by decide); omega)
    clear hix
    refine ops_nil ?_
    refine nR42 ?_
    refine run_cond_false rfl ?_
    refine run_skip ?_
    refine run_seq ?_
    refine run_seq ?_
    refine run_region ?_
    refine ops_val (ex_move rfl) ?_
    refine ops_val (ex_add rfl rfl (IntWalk.i64_in _ (by omega))) ?_
    refine ops_val (ex_assign rfl) ?_
    refine ops_nil ?_
    refine nR42 ?_
    refine run_block ?_
    refine run_loop (fun nQ lQ w => ∃ (i jj : Nat) (y z : Int) (qs : List (List Value)), ps.length - jj = nQ ∧ Fits [some (.slice (hd (some gx)) ps.length cap), some (.func (.func k) #[] #[.pointer (some ⟨gc, 0, none⟩)]), none, none, none, some (.int .i64 y), some (.int .i64 z), none, none, none, none, none, none, none, none, none, none, none, none, none, none, none, none, none, none, none, none, none, none, none, none, none, none, none, none, none, none, none, none, none, none, none] lQ ∧ y = (i : Int) ∧ z = (jj : Int) ∧ Del ps qs pr i jj 7 ∧ Hp w0 w (bl [((some gx, 110, ps.flatten ++ sp) : Ent)]) [((some gx, 110, qs.flatten ++ sp) : Ent)]) (ps.length - (j0 + 1)) ?_ ?_
    · exact ⟨j0, j0 + 1, _, _, ps, rfl, (fs (fs (fn (fn (fn (fs (fs (fn (fn (fn (fn (fn (fn (fn (fn (fn (fn (fn (fn (fn (fn (fn (fn (fn (fn (fn (fn (fn (fn (fn (fn (fn (fn (fn (fn (fn (fn (fn (fn (fn (fn (fn f0)))))))))))))))))))))))))))))))))))))))))), rfl, by omega, Del.start hp hj0 ht0 hn0, H1⟩
    · rintro nQ lQ w2 ⟨i, jj, y, z, qs, rfl, hfit, rfl, rfl, hdel, H2⟩
      obtain ⟨j, rfl⟩ := hfit.open
      refine nR42 ?_
      clear hfit
      have hdl := hdel.lt
      have hde := hdel.le
      have hqn := hdel.len
      refine run_seq ?_
      refine run_seq ?_
      refine run_region ?_
      refine ops_val (ex_move rfl) ?_
      refine ops_val (ex_move rfl) ?_
      refine ops_val (ex_len_slice Tryz.underlying39 rfl) ?_
      refine ops_test (ex_lss rfl rfl) (fun hp19 => ?_) (fun hp19 => ?_)
      · have hjl : jj < ps.length := by omega
        obtain ⟨p1, hp1⟩ := get_of hjl
        have hq1 : qs[jj]? = some p1 := hdel.at.trans hp1
        refine ops_nil ?_
        refine nR42 ?_
        refine run_cond_true rfl ?_
        refine run_skip ?_
        refine run_seq ?_
        refine run_block ?_
        refine run_seq ?_
        refine run_region ?_
        refine ops_val (ex_move rfl) ?_
        refine ops_val (ex_move rfl) ?_
        refine ops_val (ex_idx Tryz.underlying39 ty110 rfl rfl rfl hjl rfl) ?_
        refine ops_val (ex_loadN ty110 rfl (vs := p1) (hp.at hp1) (H2.elem (k := 0) rfl hdel.pl hq1)) ?_
        refine nO42 ?_
        refine ops_alloc ty110 H2 ?_
        intro w3 g3 H3 hg3
        refine ops_store ty110 H3 1 rfl rfl rfl rfl (hp.at hp1) (by rw [hp.at hp1]; decide) (ho p1 (mem_of hp1)) ?_
        intro w4 H4
        rw [putAt_all (by rw [hp.at hp1]; rfl)] at H4
        refine ops_nil ?_
        refine nR42 ?_
        refine run_seq ?_
        refine run_region ?_
        refine ops_val (ex_move rfl) ?_
        refine ops_val (ex_loadN ty110 rfl (vs := p1) (hp.at hp1) (H4.cellsR (i := 1) rfl (by rw [List.drop_zero, List.take_length]))) ?_
        refine ops_call_val (ex_call_val hk.1 rfl rfl) (hk.2.2 w4 (H4.frame gc hk.2.1 hgc) p1 (mem_of hp1)) ?_
        intro w5 Hd
        have H5 := H4.callN Hd
        refine ops_val (ex_not rfl) ?_
        refine ops_nil ?_
        refine nR42 ?_
        refine run_cond rfl (fun hb29 => ?_) (fun hb29 => ?_)
        · skip
          refine run_seq ?_
          refine run_region ?_
          refine ops_val (ex_move rfl) ?_
          refine ops_val (ex_move rfl) ?_
          refine ops_val (ex_loadN ty110 rfl (vs := p1) (hp.at hp1) (H5.cellsR (i := 1) rfl (by rw [List.drop_zero, List.take_length]))) ?_
          refine ops_val (ex_idxN Tryz.underlying39 ty110 rfl rfl rfl (by omega)) ?_
          refine nO42 ?_
          refine ops_store ty110 H5 0 rfl rfl rfl rfl (hp.at hp1) (by rw [hp.at hp1, List.length_append, hdel.pl.len, Nat.zero_add]; have : (i + 1) * 7 ≤ qs.length * 7 := Nat.mul_le_mul_right _ (by omega); omega) (ho p1 (mem_of hp1)) ?_
          intro w6 H6
          rw [Nat.zero_add, putAt_left (by rw [hp.at hp1, hdel.pl.len]; have : (i + 1) * 7 ≤ qs.length * 7 := Nat.mul_le_mul_right _ (by omega); omega), hdel.pl.set_ (by omega) (hp.at hp1)] at H6
          refine ops_nil ?_
          refine nR42 ?_
          refine run_region ?_
          refine ops_val (ex_move rfl) ?_
          refine ops_val (ex_add rfl rfl (IntWalk.i64_in _ (by omega))) ?_
          refine ops_val (ex_assign rfl) ?_
          refine ops_nil ?_
          refine nR42 ?_
          refine run_nil (blk_normal ?_)
          refine run_region ?_
          refine ops_val (ex_move rfl) ?_
          refine ops_val (ex_add rfl rfl (IntWalk.i64_in _ (by omega))) ?_
          refine ops_val (ex_assign rfl) ?_
          refine ops_nil ?_
          refine nR42 ?_
          refine run_nil (rnd_normal ?_)
          exact ⟨ps.length - (jj + 1), by omega, i + 1, jj + 1, _, _, qs.set i p1, rfl, (fs (fs (fn (fn (fn (fs (fs (fn (fn (fn (fn (fn (fn (fn (fn (fn (fn (fn (fn (fn (fn (fn (fn (fn (fn (fn (fn (fn (fn (fn (fn (fn (fn (fn (fn (fn (fn (fn (fn (fn (fn (fn f0)))))))))))))))))))))))))))))))))))))))))), by omega, by omega, hdel.keep hp1 (by simpa using hb29) (hp.at hp1), H6.pick [0] (by decide)⟩
        · skip
          refine run_skip ?_
          refine run_nil (blk_normal ?_)
          refine run_region ?_
          refine ops_val (ex_move rfl) ?_
          refine ops_val (ex_add rfl rfl (IntWalk.i64_in _ (by omega))) ?_
          refine ops_val (ex_assign rfl) ?_
          refine ops_nil ?_
          refine nR42 ?_
          refine run_nil (rnd_normal ?_)
          exact ⟨ps.length - (jj + 1), by omega, i, jj + 1, _, _, qs, rfl, (fs (fs (fn (fn (fn (fs (fs (fn (fn (fn (fn (fn (fn (fn (fn (fn (fn (fn (fn (fn (fn (fn (fn (fn (fn (fn (fn (fn (fn (fn (fn (fn (fn (fn (fn (fn (fn (fn (fn (fn (fn (fn f0)))))))))))))))))))))))))))))))))))))))))), rfl, by omega, hdel.skip hp1 (by simpa using hb29), H5.pick [0] (by decide)⟩
      · obtain rfl : jj = ps.length := by omega
        refine ops_nil ?_
        refine nR42 ?_
        refine run_cond_false rfl ?_
        refine run_exit ?_
        refine rnd_exit ?_
        refine blk_exit ?_
        refine run_seq ?_
        refine run_region ?_
        refine ops_val (ex_move rfl) ?_
        refine ops_val (ex_move rfl) ?_
        have hdn := hdel.done
        refine ops_val (ex_lo Tryz.underlying39 ty110 rfl rfl rfl (by omega) (by omega)) ?_
        rw [addn]
        have hfit : 0 + i * 7 + (ps.length - i) * 7 ≤ (qs.flatten ++ sp).length := by
          rw [List.length_append, hdel.pl.len, hqn, Nat.zero_add, ← Nat.add_mul, show i + (ps.length - i) = ps.length by omega]; omega
        refine ops_clear Tryz.underlying39 ty110 H2 0 rfl rfl hfit rfl ?_
        intro w3 H3
        refine ops_nil ?_
        refine nR42 ?_
        refine run_seq ?_
        refine run_region ?_
        refine ops_val (ex_move rfl) ?_
        refine ops_val (ex_move rfl) ?_
        refine ops_val (ex_hi Tryz.underlying39 ty110 rfl rfl rfl (by omega)) ?_
        refine ops_val (ex_assign rfl) ?_
        refine ops_nil ?_
        refine nR42 ?_
        refine run_ret ?_
        refine fin_ret1 rfl rfl ?_
        have hpl := putAt_len (cs := qs.flatten ++ sp) (vs := initL [.int .i64 0, .int .i64 0, .bool false, .int .i64 0, .int .i64 0, .int .i64 0, .int .i64 0] (ps.length - i)) (o := 0 + i * 7) (by rw [initL_length]; exact hfit)
        rw [hdel.cells rfl] at hpl
        have HZ := H3
        change Hp _ _ _ [((some gx, 110, putAt (qs.flatten ++ sp) (0 + i * 7) _) : Ent)] at HZ
        rw [hdel.cells rfl] at HZ
        refine ⟨_, by rw [hdn.2], ?_, HZ⟩
        rw [hpl, List.length_append, List.length_append, hdel.pl.len, hp.len, hqn]
end Go.Proofs.YtjoeklkmnfaabaaGreat
/- Walks of layer 2, printed by wip/gen/codec.py. -/
namespace Go.Proofs.YtjoeklkmnfaabaaGreat
open Go Go.RowKit
set_option linter.unusedVariables false
attribute [local irreducible] Still Ops Does Cd
set_option maxRecDepth 100000 in
set_option maxHeartbeats 4000000 in
theorem bsearchV (A : Option Addr) (c : Nat) (ps : List (List Value)) (n : Nat) (hn : ps.length = n) (k : FuncId) (tn : Int) (cf : List Value → Int) (w0 : World) (hp : Pl 4 ps) (hr : Rd w0 A ps.length 4 ps.flatten) (hl : ps.length ≤ 4611686018427387903) (hC : Cmp Tryz.prog k (.int .i64 tn) cf ps) :
    Does Tryz.prog 164 #[.slice A n c, .int .i64 tn, .func (.func k) #[] #[]] w0 (fun r w' => ∃ (i : Nat) (f : Bool), r = .tuple #[.int .i64 (i : Int), .bool f] ∧ Found ps cf i f ∧ Hp w0 w' [] []) := by
  refine does_of Tryz.func164 Tryz.ntmps164 rfl ?_
  refine nR49 ?_
  subst hn
  have H := Hp.refl w0
  have hn := hr.len
  refine run_seq ?_
  refine run_region ?_
  refine ops_val (ex_assign rfl) ?_
  refine ops_val (ex_assign rfl) ?_
  refine ops_nil ?_
  refine nR49 ?_
  refine run_seq ?_
  refine run_region ?_
  refine ops_val (ex_move rfl) ?_
  refine ops_val (ex_len_slice Tryz.underlying94 rfl) ?_
  refine ops_val (ex_assign rfl) ?_
  refine ops_nil ?_
  refine nR49 ?_
  refine run_seq ?_
  refine run_region ?_
  refine ops_val (ex_move rfl) ?_
  refine ops_val (ex_assign rfl) ?_
  refine ops_val (ex_assign rfl) ?_
  refine ops_nil ?_
  refine nR49 ?_
  refine run_seq ?_
  refine run_block ?_
  refine run_loop (fun nQ lQ w => ∃ (i m : Nat) (y z : Int), m - i = nQ ∧ Fits [some (.slice A ps.length c), some (.int .i64 tn), some (.func (.func k) #[] #[]), none, none, none, none, none, some (.int .i64 (ps.length : Int)), some (.int .i64 y), some (.int .i64 z), none, none, none, none, none, none, none, none, none, none, none, none, none, none, none, none, none, none, none, none, none, none, none, none, none, none, none, none, none, none, none, none, none, none, none, none, none, none] lQ ∧ y = (i : Int) ∧ z = (m : Int) ∧ i ≤ m ∧ m ≤ ps.length ∧ (∀ (k : Nat) (p : List Value), k < i → ps[k]? = some p → cf p < 0) ∧ (∀ (k : Nat) (p : List Value), m ≤ k → ps[k]? = some p → 0 ≤ cf p) ∧ Hp w0 w [] []) (ps.length - 0) ?_ ?_
  · exact ⟨0, ps.length, _, _, rfl, (fs (fs (fs (fn (fn (fn (fn (fn (fs (fs (fs (fn (fn (fn (fn (fn (fn (fn (fn (fn (fn (fn (fn (fn (fn (fn (fn (fn (fn (fn (fn (fn (fn (fn (fn (fn (fn (fn (fn (fn (fn (fn (fn (fn (fn (fn (fn (fn (fn f0))))))))))))))))))))))))))))))))))))))))))))))))), rfl, rfl, Nat.zero_le _, Nat.le_refl _, fun k p hk => by omega, fun k p hk hkp => by have := lt_of_get hkp; omega, H⟩
  · rintro nQ lQ w1 ⟨i, m, y, z, rfl, hfit, rfl, rfl, him, hmn, hlo, hhi, H1⟩
    obtain ⟨j, rfl⟩ := hfit.open
    refine nR49 ?_
    clear hfit
    refine run_seq ?_
    refine run_seq ?_
    refine run_region ?_
    refine ops_val (ex_move rfl) ?_
    refine ops_val (ex_move rfl) ?_
    refine ops_test (ex_lss rfl rfl) (fun hp17 => ?_) (fun hp17 => ?_)
    · obtain ⟨p1, hp1⟩ := get_of (l := ps) (j := (i + m) / 2) (by omega)
      have hql := lt_of_get hp1
      obtain ⟨a1, ha1⟩ := hr.some_ (by omega)
      subst ha1
      refine ops_nil ?_
      refine nR49 ?_
      refine run_cond_true rfl ?_
      refine run_skip ?_
      refine run_block ?_
      refine run_seq ?_
      refine run_region ?_
      refine ops_val (ex_move rfl) ?_
      refine ops_val (ex_move rfl) ?_
      refine ops_val (ex_add rfl rfl ((IntWalk.i64_in _ (by omega)).trans (show (i : Int) + (m : Int) = ((i + m : Nat) : Int) by omega))) ?_
      refine ops_val (ex_conv Tryz.underlying144 Tryz.underlying3 rfl ((show IntKind.u64.wrap ((i + m : Nat) : Int) = ((i + m : Nat) : Int) by rw [IntKind.wrap_u64]; omega))) ?_
      refine nO49 ?_
      refine ops_val (ex_shr rfl rfl (by omega) (show (((i + m : Nat) : Int)).fdiv (2 ^ (min (1 : Int).toNat IntKind.u64.bits)) = (((i + m) / 2 : Nat) : Int) from shr_nat (i + m) 1 64)) ?_
      refine ops_val (ex_conv Tryz.underlying3 Tryz.underlying144 rfl (IntWalk.i64_in _ (by omega))) ?_
      refine ops_val (ex_assign rfl) ?_
      refine ops_nil ?_
      refine nR49 ?_
      refine run_seq ?_
      refine run_region ?_
      refine ops_val (ex_move rfl) ?_
      refine ops_val (ex_move rfl) ?_
      refine ops_val (ex_move rfl) ?_
      refine ops_val (ex_idx Tryz.underlying94 ty77 rfl rfl rfl hql rfl) ?_
      refine nO49 ?_
      refine ops_val (ex_loadN ty77 rfl (vs := p1) (hp.at hp1) ((hr.to0 H1).elem hp hp1)) ?_
      refine ops_val (ex_move rfl) ?_
      refine ops_call_val (ex_call_val hC.go rfl rfl) (hC.does w1 p1 (mem_of hp1)) ?_
      intro w2 Hd
      have H2 := H1.callN Hd
      refine ops_test (ex_lss rfl rfl) (fun hp31 => ?_) (fun hp31 => ?_)
      · skip
        refine ops_nil ?_
        refine nR49 ?_
        refine run_cond_true rfl ?_
        refine run_region ?_
        refine ops_val (ex_move rfl) ?_
        refine ops_val (ex_add rfl rfl (IntWalk.i64_in _ (by omega))) ?_
        refine ops_val (ex_assign rfl) ?_
        refine ops_nil ?_
        refine nR49 ?_
        refine run_nil (blk_normal ?_)
        refine run_nil (rnd_normal ?_)
        exact ⟨m - ((i + m) / 2 + 1), by omega, (i + m) / 2 + 1, m, _, _, rfl, (fs (fs (fs (fn (fn (fn (fn (fn (fs (fs (fs (fn (fn (fn (fn (fn (fn (fn (fn (fn (fn (fn (fn (fn (fn (fn (fn (fn (fn (fn (fn (fn (fn (fn (fn (fn (fn (fn (fn (fn (fn (fn (fn (fn (fn (fn (fn (fn (fn f0))))))))))))))))))))))))))))))))))))))))))))))))), by omega, rfl, by omega, by omega, fun k p hk hkp => hC.mono k _ p p1 (by omega) hkp hp1 hp31, hhi, H2⟩
      · skip
        refine ops_nil ?_
        refine nR49 ?_
        refine run_cond_false rfl ?_
        refine run_region ?_
        refine ops_val (ex_move rfl) ?_
        refine ops_val (ex_assign rfl) ?_
        refine ops_nil ?_
        refine nR49 ?_
        refine run_nil (blk_normal ?_)
        refine run_nil (rnd_normal ?_)
        exact ⟨(i + m) / 2 - i, by omega, i, (i + m) / 2, _, _, rfl, (fs (fs (fs (fn (fn (fn (fn (fn (fs (fs (fs (fn (fn (fn (fn (fn (fn (fn (fn (fn (fn (fn (fn (fn (fn (fn (fn (fn (fn (fn (fn (fn (fn (fn (fn (fn (fn (fn (fn (fn (fn (fn (fn (fn (fn (fn (fn (fn (fn f0))))))))))))))))))))))))))))))))))))))))))))))))), rfl, rfl, by omega, by omega, hlo, fun k p hk hkp => by
          rcases Int.lt_or_le (cf p) 0 with h | h
          · exact absurd (hC.mono _ k p1 p (by omega) hp1 hkp h) hp31
          · exact h, H2⟩
    · obtain rfl : i = m := by omega
      refine ops_nil ?_
      refine nR49 ?_
      refine run_cond_false rfl ?_
      refine run_exit ?_
      refine rnd_exit ?_
      refine blk_exit ?_
      refine run_seq ?_
      refine run_region ?_
      refine ops_val (ex_move rfl) ?_
      refine ops_val (ex_move rfl) ?_
      refine ops_val (ex_move rfl) ?_
      refine ops_test (ex_lss rfl rfl) (fun hp38 => ?_) (fun hp38 => ?_)
      · obtain ⟨p1, hp1⟩ := get_of (l := ps) (j := i) (by omega)
        have hql := lt_of_get hp1
        obtain ⟨a1, ha1⟩ := hr.some_ (by omega)
        subst ha1
        refine ops_val (ex_move rfl) ?_
        refine nO49 ?_
        refine ops_yes rfl ?_
        refine ops_val (ex_move rfl) ?_
        refine ops_yes rfl ?_
        refine ops_val (ex_move rfl) ?_
        refine nO49 ?_
        refine ops_yes rfl ?_
        refine ops_val (ex_move rfl) ?_
        refine ops_yes rfl ?_
        refine ops_val (ex_idx Tryz.underlying94 ty77 rfl rfl rfl hql rfl) ?_
        refine nO49 ?_
        refine ops_yes rfl ?_
        refine ops_val (ex_loadN ty77 rfl (vs := p1) (hp.at hp1) ((hr.to0 H1).elem hp hp1)) ?_
        refine ops_yes rfl ?_
        refine ops_val (ex_move rfl) ?_
        refine nO49 ?_
        refine ops_yes rfl ?_
        refine ops_call_val (ex_call_val hC.go rfl rfl) (hC.does w1 p1 (mem_of hp1)) ?_
        intro w2 Hd
        have H2 := H1.callN Hd
        refine ops_yes rfl ?_
        refine ops_test (ex_eql rfl rfl) (fun hp47 => ?_) (fun hp47 => ?_)
        · skip
          refine ops_val (ex_pick_t rfl rfl) ?_
          refine ops_val (ex_assign rfl) ?_
          refine ops_val (ex_assign rfl) ?_
          refine ops_nil ?_
          refine nR49 ?_
          refine run_ret ?_
          refine fin_ret2 rfl rfl rfl ?_
          exact ⟨i, true, rfl, ⟨by omega, hlo, hhi, fun _ => ⟨p1, hp1, hp47⟩, fun h => by cases h⟩, H2.noRows⟩
        · skip
          refine ops_val (ex_pick_t rfl rfl) ?_
          refine ops_val (ex_assign rfl) ?_
          refine ops_val (ex_assign rfl) ?_
          refine ops_nil ?_
          refine nR49 ?_
          refine run_ret ?_
          refine fin_ret2 rfl rfl rfl ?_
          exact ⟨i, false, rfl, ⟨by omega, hlo, hhi, (fun h => by cases h), fun _ p h2 => by
            rw [hp1] at h2
            cases h2
            exact hp47⟩, H2.noRows⟩
      · skip
        refine ops_val (ex_move rfl) ?_
        refine nO49 ?_
        refine ops_no rfl ?_
        refine ops_no rfl ?_
        refine nO49 ?_
        refine ops_no rfl ?_
        refine ops_no rfl ?_
        refine nO49 ?_
        refine ops_no rfl ?_
        refine ops_no rfl ?_
        refine nO49 ?_
        refine ops_no rfl ?_
        refine ops_no rfl ?_
        refine ops_val (ex_pick_f rfl rfl) ?_
        refine ops_val (ex_assign rfl) ?_
        refine nO49 ?_
        refine ops_val (ex_assign rfl) ?_
        refine ops_nil ?_
        refine nR49 ?_
        refine run_ret ?_
        refine fin_ret2 rfl rfl rfl ?_
        exact ⟨i, false, rfl, ⟨by omega, hlo, hhi, (fun h => by cases h), fun _ p h2 => by have := lt_of_get h2; omega⟩, H1.noRows⟩
set_option maxRecDepth 100000 in
set_option maxHeartbeats 4000000 in
theorem bsearchM (A : Option Addr) (c : Nat) (ps : List (List Value)) (n : Nat) (hn : ps.length = n) (k : FuncId) (tn : Int) (cf : List Value → Int) (w0 : World) (hp : Pl 7 ps) (hr : Rd w0 A ps.length 7 ps.flatten) (hl : ps.length ≤ 4611686018427387903) (hC : Cmp Tryz.prog k (.int .i64 tn) cf ps) :
    Does Tryz.prog 189 #[.slice A n c, .int .i64 tn, .func (.func k) #[] #[]] w0 (fun r w' => ∃ (i : Nat) (f : Bool), r = .tuple #[.int .i64 (i : Int), .bool f] ∧ Found ps cf i f ∧ Hp w0 w' [] []) := by
  refine does_of Tryz.func189 Tryz.ntmps189 rfl ?_
  refine nR49 ?_
  subst hn
  have H := Hp.refl w0
  have hn := hr.len
  refine run_seq ?_
  refine run_region ?_
  refine ops_val (ex_assign rfl) ?_
  refine ops_val (ex_assign rfl) ?_
  refine ops_nil ?_
  refine nR49 ?_
  refine run_seq ?_
  refine run_region ?_
  refine ops_val (ex_move rfl) ?_
  refine ops_val (ex_len_slice Tryz.underlying39 rfl) ?_
  refine ops_val (ex_assign rfl) ?_
  refine ops_nil ?_
  refine nR49 ?_
  refine run_seq ?_
  refine run_region ?_
  refine ops_val (ex_move rfl) ?_
  refine ops_val (ex_assign rfl) ?_
  refine ops_val (ex_assign rfl) ?_
  refine ops_nil ?_
  refine nR49 ?_
  refine run_seq ?_
  refine run_block ?_
  refine run_loop (fun nQ lQ w => ∃ (i m : Nat) (y z : Int), m - i = nQ ∧ Fits [some (.slice A ps.length c), some (.int .i64 tn), some (.func (.func k) #[] #[]), none, none, none, none, none, some (.int .i64 (ps.length : Int)), some (.int .i64 y), some (.int .i64 z), none, none, none, none, none, none, none, none, none, none, none, none, none, none, none, none, none, none, none, none, none, none, none, none, none, none, none, none, none, none, none, none, none, none, none, none, none, none] lQ ∧ y = (i : Int) ∧ z = (m : Int) ∧ i ≤ m ∧ m ≤ ps.length ∧ (∀ (k : Nat) (p : List Value), k < i → ps[k]? = some p → cf p < 0) ∧ (∀ (k : Nat) (p : List Value), m ≤ k → ps[k]? = some p → 0 ≤ cf p) ∧ Hp w0 w [] []) (ps.length - 0) ?_ ?_
  · exact ⟨0, ps.length, _, _, rfl, (fs (fs (fs (fn (fn (fn (fn (fn (fs (fs (fs (fn (fn (fn (fn (fn (fn (fn (fn (fn (fn (fn (fn (fn (fn (fn (fn (fn (fn (fn (fn (fn (fn (fn (fn (fn (fn (fn (fn (fn (fn (fn (fn (fn (fn (fn (fn (fn (fn f0))))))))))))))))))))))))))))))))))))))))))))))))), rfl, rfl, Nat.zero_le _, Nat.le_refl _, fun k p hk => by omega, fun k p hk hkp => by have := lt_of_get hkp; omega, H⟩
  · rintro nQ lQ w1 ⟨i, m, y, z, rfl, hfit, rfl, rfl, him, hmn, hlo, hhi, H1⟩
    obtain ⟨j, rfl⟩ := hfit.open
    refine nR49 ?_
    clear hfit
    refine run_seq ?_
    refine run_seq ?_
    refine run_region ?_
    refine ops_val (ex_move rfl) ?_
    refine ops_val (ex_move rfl) ?_
    refine ops_test (ex_lss rfl rfl) (fun hp17 => ?_) (fun hp17 => ?_)
    · obtain ⟨p1, hp1⟩ := get_of (l := ps) (j := (i + m) / 2) (by omega)
      have hql := lt_of_get hp1
      obtain ⟨a1, ha1⟩ := hr.some_ (by omega)
      subst ha1
      refine ops_nil ?_
      refine nR49 ?_
      refine run_cond_true rfl ?_
      refine run_skip ?_
      refine run_block ?_
      refine run_seq ?_
      refine run_region ?_
      refine ops_val (ex_move rfl) ?_
      refine ops_val (ex_move rfl) ?_
      refine ops_val (ex_add rfl rfl ((IntWalk.i64_in _ (by omega)).trans (show (i : Int) + (m : Int) = ((i + m : Nat) : Int) by omega))) ?_
      refine ops_val (ex_conv Tryz.underlying144 Tryz.underlying3 rfl ((show IntKind.u64.wrap ((i + m : Nat) : Int) = ((i + m : Nat) : Int) by rw [IntKind.wrap_u64]; omega))) ?_
      refine nO49 ?_
      refine ops_val (ex_shr rfl rfl (by omega) (show (((i + m : Nat) : Int)).fdiv (2 ^ (min (1 : Int).toNat IntKind.u64.bits)) = (((i + m) / 2 : Nat) : Int) from shr_nat (i + m) 1 64)) ?_
      refine ops_val (ex_conv Tryz.underlying3 Tryz.underlying144 rfl (IntWalk.i64_in _ (by omega))) ?_
      refine ops_val (ex_assign rfl) ?_
      refine ops_nil ?_
      refine nR49 ?_
      refine run_seq ?_
      refine run_region ?_
      refine ops_val (ex_move rfl) ?_
      refine ops_val (ex_move rfl) ?_
      refine ops_val (ex_move rfl) ?_
      refine ops_val (ex_idx Tryz.underlying39 ty110 rfl rfl rfl hql rfl) ?_
      refine nO49 ?_
      refine ops_val (ex_loadN ty110 rfl (vs := p1) (hp.at hp1) ((hr.to0 H1).elem hp hp1)) ?_
      refine ops_val (ex_move rfl) ?_
      refine ops_call_val (ex_call_val hC.go rfl rfl) (hC.does w1 p1 (mem_of hp1)) ?_
      intro w2 Hd
      have H2 := H1.callN Hd
      refine ops_test (ex_lss rfl rfl) (fun hp31 => ?_) (fun hp31 => ?_)
      · skip
        refine ops_nil ?_
        refine nR49 ?_
        refine run_cond_true rfl ?_
        refine run_region ?_
        refine ops_val (ex_move rfl) ?_
        refine ops_val (ex_add rfl rfl (IntWalk.i64_in _ (by omega))) ?_
        refine ops_val (ex_assign rfl) ?_
        refine ops_nil ?_
        refine nR49 ?_
        refine run_nil (blk_normal ?_)
        refine run_nil (rnd_normal ?_)
        exact ⟨m - ((i + m) / 2 + 1), by omega, (i + m) / 2 + 1, m, _, _, rfl, (fs (fs (fs (fn (fn (fn (fn (fn (fs (fs (fs (fn (fn (fn (fn (fn (fn (fn (fn (fn (fn (fn (fn (fn (fn (fn (fn (fn (fn (fn (fn (fn (fn (fn (fn (fn (fn (fn (fn (fn (fn (fn (fn (fn (fn (fn (fn (fn (fn f0))))))))))))))))))))))))))))))))))))))))))))))))), by omega, rfl, by omega, by omega, fun k p hk hkp => hC.mono k _ p p1 (by omega) hkp hp1 hp31, hhi, H2⟩
      · skip
        refine ops_nil ?_
        refine nR49 ?_
        refine run_cond_false rfl ?_
        refine run_region ?_
        refine ops_val (ex_move rfl) ?_
        refine ops_val (ex_assign rfl) ?_
        refine ops_nil ?_
        refine nR49 ?_
        refine run_nil (blk_normal ?_)
        refine run_nil (rnd_normal ?_)
        exact ⟨(i + m) / 2 - i, by omega, i, (i + m) / 2, _, _, rfl, (fs (fs (fs (fn (fn (fn (fn (fn (fs (fs (fs (fn (fn (fn (fn (fn (fn (fn (fn (fn (fn (fn (fn (fn (fn (fn (fn (fn (fn (fn (fn (fn (fn (fn (fn (fn (fn (fn (fn (fn (fn (fn (fn (fn (fn (fn (fn (fn (fn f0))))))))))))))))))))))))))))))))))))))))))))))))), rfl, rfl, by omega, by omega, hlo, fun k p hk hkp => by
          rcases Int.lt_or_le (cf p) 0 with h | h
          · exact absurd (hC.mono _ k p1 p (by omega) hp1 hkp h) hp31
          · exact h, H2⟩
    · obtain rfl : i = m := by omega
      refine ops_nil ?_
      refine nR49 ?_
      refine run_cond_false rfl ?_
      refine run_exit ?_
      refine rnd_exit ?_
      refine blk_exit ?_
      refine run_seq ?_
      refine run_region ?_
      refine ops_val (ex_move rfl) ?_
      refine ops_val (ex_move rfl) ?_
      refine ops_val (ex_move rfl) ?_
      refine ops_test (ex_lss rfl rfl) (fun hp38 => ?_) (fun hp38 => ?_)
      · obtain ⟨p1, hp1⟩ := get_of (l := ps) (j := i) (by omega)
        have hql := lt_of_get hp1
        obtain ⟨a1, ha1⟩ := hr.some_ (by omega)
        subst ha1
        refine ops_val (ex_move rfl) ?_
        refine nO49 ?_
        refine ops_yes rfl ?_
        refine ops_val (ex_move rfl) ?_
        refine ops_yes rfl ?_
        refine ops_val (ex_move rfl) ?_
        refine nO49 ?_
        refine ops_yes rfl ?_
        refine ops_val (ex_move rfl) ?_
        refine ops_yes rfl ?_
        refine ops_val (ex_idx Tryz.underlying39 ty110 rfl rfl rfl hql rfl) ?_
        refine nO49 ?_
        refine ops_yes rfl ?_
        refine ops_val (ex_loadN ty110 rfl (vs := p1) (hp.at hp1) ((hr.to0 H1).elem hp hp1)) ?_
        refine ops_yes rfl ?_
        refine ops_val (ex_move rfl) ?_
        refine nO49 ?_
        refine ops_yes rfl ?_
        refine ops_call_val (ex_call_val hC.go rfl rfl) (hC.does w1 p1 (mem_of hp1)) ?_
        intro w2 Hd
        have H2 := H1.callN Hd
        refine ops_yes rfl ?_
        refine ops_test (ex_eql rfl rfl) (fun hp47 => ?_) (fun hp47 => ?_)
        · skip
          refine ops_val (ex_pick_t rfl rfl) ?_
          refine ops_val (ex_assign rfl) ?_
          refine ops_val (ex_assign rfl) ?_
          refine ops_nil ?_
          refine nR49 ?_
          refine run_ret ?_
          refine fin_ret2 rfl rfl rfl ?_
          exact ⟨i, true, rfl, ⟨by omega, hlo, hhi, fun _ => ⟨p1, hp1, hp47⟩, fun h => by cases h⟩, H2.noRows⟩
        · skip
          refine ops_val (ex_pick_t rfl rfl) ?_
          refine ops_val (ex_assign rfl) ?_
          refine ops_val (ex_assign rfl) ?_
          refine ops_nil ?_
          refine nR49 ?_
          refine run_ret ?_
          refine fin_ret2 rfl rfl rfl ?_
          exact ⟨i, false, rfl, ⟨by omega, hlo, hhi, (fun h => by cases h), fun _ p h2 => by
            rw [hp1] at h2
            cases h2
            exact hp47⟩, H2.noRows⟩
      · skip
        refine ops_val (ex_move rfl) ?_
        refine nO49 ?_
        refine ops_no rfl ?_
        refine ops_no rfl ?_
        refine nO49 ?_
        refine ops_no rfl ?_
        refine ops_no rfl ?_
        refine nO49 ?_
        refine ops_no rfl ?_
        refine ops_no rfl ?_
        refine nO49 ?_
        refine ops_no rfl ?_
        refine ops_no rfl ?_
        refine ops_val (ex_pick_f rfl rfl) ?_
        refine ops_val (ex_assign rfl) ?_
        refine nO49 ?_
        refine ops_val (ex_assign rfl) ?_
        refine ops_nil ?_
        refine nR49 ?_
        refine run_ret ?_
        refine fin_ret2 rfl rfl rfl ?_
        exact ⟨i, false, rfl, ⟨by omega, hlo, hhi, (fun h => by cases h), fun _ p h2 => by have := lt_of_get h2; omega⟩, H1.noRows⟩
set_option maxRecDepth 100000 in
set_option maxHeartbeats 4000000 in
theorem bsearchR (A : Option Addr) (c : Nat) (ps : List (List Value)) (n : Nat) (hn : ps.length = n) (k : FuncId) (tc : List Value) (htc : tc.length = 4) (cf : List Value → Int) (w0 : World) (hp : Pl 4 ps) (hr : Rd w0 A ps.length 4 ps.flatten) (hl : ps.length ≤ 4611686018427387903) (hC : Cmp Tryz.prog k (.agg tc.toArray) cf ps) :
    Does Tryz.prog 154 #[.slice A n c, .agg tc.toArray, .func (.func k) #[] #[]] w0 (fun r w' => ∃ (i : Nat) (f : Bool), r = .tuple #[.int .i64 (i : Int), .bool f] ∧ Found ps cf i f ∧ Hp w0 w' [] []) := by
  refine does_of Tryz.func154 Tryz.ntmps154 rfl ?_
  refine nR49 ?_
  subst hn
  have H := Hp.refl w0
  have hn := hr.len
  refine run_seq ?_
  refine run_region ?_
  refine ops_box rfl rfl H ?_
  intro w1 g4 H1 hg4
  refine ops_val (ex_assign rfl) ?_
  refine ops_val (ex_assign rfl) ?_
  refine ops_nil ?_
  refine nR49 ?_
  refine run_seq ?_
  refine run_region ?_
  refine ops_val (ex_move rfl) ?_
  refine ops_val (ex_len_slice Tryz.underlying38 rfl) ?_
  refine ops_val (ex_assign rfl) ?_
  refine ops_nil ?_
  refine nR49 ?_
  refine run_seq ?_
  refine run_region ?_
  refine ops_val (ex_move rfl) ?_
  refine ops_val (ex_assign rfl) ?_
  refine ops_val (ex_assign rfl) ?_
  refine ops_nil ?_
  refine nR49 ?_
  refine run_seq ?_
  refine run_block ?_
  refine run_loop (fun nQ lQ w => ∃ (i m : Nat) (y z : Int) (g4 : Nat), m - i = nQ ∧ Fits [some (.slice A ps.length c), none, some (.func (.func k) #[] #[]), none, some (.pointer (some ⟨g4, 0, none⟩)), none, none, none, some (.int .i64 (ps.length : Int)), some (.int .i64 y), some (.int .i64 z), none, none, none, none, none, none, none, none, none, none, none, none, none, none, none, none, none, none, none, none, none, none, none, none, none, none, none, none, none, none, none, none, none, none, none, none, none, none] lQ ∧ y = (i : Int) ∧ z = (m : Int) ∧ i ≤ m ∧ m ≤ ps.length ∧ (∀ (k : Nat) (p : List Value), k < i → ps[k]? = some p → cf p < 0) ∧ (∀ (k : Nat) (p : List Value), m ≤ k → ps[k]? = some p → 0 ≤ cf p) ∧ Hp w0 w [] [((some g4, 35, tc) : Ent)]) (ps.length - 0) ?_ ?_
  · exact ⟨0, ps.length, _, _, _, rfl, (fs (fn (fs (fn (fs (fn (fn (fn (fs (fs (fs (fn (fn (fn (fn (fn (fn (fn (fn (fn (fn (fn (fn (fn (fn (fn (fn (fn (fn (fn (fn (fn (fn (fn (fn (fn (fn (fn (fn (fn (fn (fn (fn (fn (fn (fn (fn (fn (fn f0))))))))))))))))))))))))))))))))))))))))))))))))), rfl, rfl, Nat.zero_le _, Nat.le_refl _, fun k p hk => by omega, fun k p hk hkp => by have := lt_of_get hkp; omega, H1⟩
  · rintro nQ lQ w2 ⟨i, m, y, z, g4, rfl, hfit, rfl, rfl, him, hmn, hlo, hhi, H2⟩
    obtain ⟨j, rfl⟩ := hfit.open
    refine nR49 ?_
    clear hfit
    refine run_seq ?_
    refine run_seq ?_
    refine run_region ?_
    refine ops_val (ex_move rfl) ?_
    refine ops_val (ex_move rfl) ?_
    refine ops_test (ex_lss rfl rfl) (fun hp17 => ?_) (fun hp17 => ?_)
    · obtain ⟨p1, hp1⟩ := get_of (l := ps) (j := (i + m) / 2) (by omega)
      have hql := lt_of_get hp1
      obtain ⟨a1, ha1⟩ := hr.some_ (by omega)
      subst ha1
      refine ops_nil ?_
      refine nR49 ?_
      refine run_cond_true rfl ?_
      refine run_skip ?_
      refine run_block ?_
      refine run_seq ?_
      refine run_region ?_
      refine ops_val (ex_move rfl) ?_
      refine ops_val (ex_move rfl) ?_
      refine ops_val (ex_add rfl rfl ((IntWalk.i64_in _ (by omega)).trans (show (i : Int) + (m : Int) = ((i + m : Nat) : Int) by omega))) ?_
      refine ops_val (ex_conv Tryz.underlying144 Tryz.underlying3 rfl ((show IntKind.u64.wrap ((i + m : Nat) : Int) = ((i + m : Nat) : Int) by rw [IntKind.wrap_u64]; omega))) ?_
      refine nO49 ?_
      refine ops_val (ex_shr rfl rfl (by omega) (show (((i + m : Nat) : Int)).fdiv (2 ^ (min (1 : Int).toNat IntKind.u64.bits)) = (((i + m) / 2 : Nat) : Int) from shr_nat (i + m) 1 64)) ?_
      refine ops_val (ex_conv Tryz.underlying3 Tryz.underlying144 rfl (IntWalk.i64_in _ (by omega))) ?_
      refine ops_val (ex_assign rfl) ?_
      refine ops_nil ?_
      refine nR49 ?_
      refine run_seq ?_
      refine run_mixZ 7 [(true, 0), (true, 1), (true, 2), (true, 3), (true, 4), (true, 5), (false, 6), (false, 7)] H2 [0] mixed (by decide) (by kernel_rfl) ?_
      rintro w3 hw3
      have H3 := Hp.drew H2; rw [← hw3] at H3
      refine mixz_p rfl ?_
      refine mix1_val (fun wz hz => ex_move rfl) ?_
      refine mixz_p rfl ?_
      refine mix1_val (fun wz hz => ex_move rfl) ?_
      refine mixz_p rfl ?_
      refine mix1_val (fun wz hz => ex_move rfl) ?_
      refine mixz_p rfl ?_
      refine mix1_val (fun wz hz => ex_idx Tryz.underlying38 ty35 rfl rfl rfl hql rfl) ?_
      refine nZ49 ?_
      refine mixz_p rfl ?_
      refine mix1_val (fun wz hz => ex_loadN ty35 rfl (vs := p1) (hp.at hp1) ((hr.to0 hz).elem hp hp1)) ?_
      refine mixz_p rfl ?_
      refine mix1_val (fun wz hz => ex_loadN ty35 rfl (vs := tc) htc (hz.cellsR (i := 0) rfl (by rw [List.drop_zero, List.take_length]))) ?_
      refine mixz_o rfl ?_
      refine ops_call_val (ex_call_val hC.go rfl rfl) (hC.does w3 p1 (mem_of hp1)) ?_
      intro w4 Hd
      have H4 := H3.callN Hd
      refine ops_nil ?_
      refine ⟨fun hne => H4.pick [0] (by decide), ?_⟩
      refine nZ49 ?_
      refine mixz_o rfl ?_
      refine ops_test (ex_lss rfl rfl) (fun hp31 => ?_) (fun hp31 => ?_)
      · skip
        refine ops_nil ?_
        refine ⟨fun hne => absurd rfl hne, ?_⟩
        refine mixz_nil ?_
        refine nR49 ?_
        refine run_cond_true rfl ?_
        refine run_region ?_
        refine ops_val (ex_move rfl) ?_
        refine ops_val (ex_add rfl rfl (IntWalk.i64_in _ (by omega))) ?_
        refine ops_val (ex_assign rfl) ?_
        refine ops_nil ?_
        refine nR49 ?_
        refine run_nil (blk_normal ?_)
        refine run_nil (rnd_normal ?_)
        exact ⟨m - ((i + m) / 2 + 1), by omega, (i + m) / 2 + 1, m, _, _, _, rfl, (fs (fn (fs (fn (fs (fn (fn (fn (fs (fs (fs (fn (fn (fn (fn (fn (fn (fn (fn (fn (fn (fn (fn (fn (fn (fn (fn (fn (fn (fn (fn (fn (fn (fn (fn (fn (fn (fn (fn (fn (fn (fn (fn (fn (fn (fn (fn (fn (fn f0))))))))))))))))))))))))))))))))))))))))))))))))), by omega, rfl, by omega, by omega, fun k p hk hkp => hC.mono k _ p p1 (by omega) hkp hp1 hp31, hhi, H4⟩
      · skip
        refine ops_nil ?_
        refine ⟨fun hne => absurd rfl hne, ?_⟩
        refine mixz_nil ?_
        refine nR49 ?_
        refine run_cond_false rfl ?_
        refine run_region ?_
        refine ops_val (ex_move rfl) ?_
        refine ops_val (ex_assign rfl) ?_
        refine ops_nil ?_
        refine nR49 ?_
        refine run_nil (blk_normal ?_)
        refine run_nil (rnd_normal ?_)
        exact ⟨(i + m) / 2 - i, by omega, i, (i + m) / 2, _, _, _, rfl, (fs (fn (fs (fn (fs (fn (fn (fn (fs (fs (fs (fn (fn (fn (fn (fn (fn (fn (fn (fn (fn (fn (fn (fn (fn (fn (fn (fn (fn (fn (fn (fn (fn (fn (fn (fn (fn (fn (fn (fn (fn (fn (fn (fn (fn (fn (fn (fn (fn f0))))))))))))))))))))))))))))))))))))))))))))))))), rfl, rfl, by omega, by omega, hlo, fun k p hk hkp => by
          rcases Int.lt_or_le (cf p) 0 with h | h
          · exact absurd (hC.mono _ k p1 p (by omega) hp1 hkp h) hp31
          · exact h, H4⟩
    · obtain rfl : i = m := by omega
      refine ops_nil ?_
      refine nR49 ?_
      refine run_cond_false rfl ?_
      refine run_exit ?_
      refine rnd_exit ?_
      refine blk_exit ?_
      refine run_seq ?_
      refine run_mixZ 15 [(true, 0), (true, 1), (true, 2), (true, 3), (true, 4), (true, 5), (true, 6), (true, 7), (true, 8), (true, 9), (true, 10), (false, 11), (true, 12), (true, 13), (true, 14), (false, 15)] H2 [0] mixed (by decide) (by kernel_rfl) ?_
      rintro w3 hw3
      have H3 := Hp.drew H2; rw [← hw3] at H3
      refine mixz_p rfl ?_
      refine mix1_val (fun wz hz => ex_move rfl) ?_
      refine mixz_p rfl ?_
      refine mix1_val (fun wz hz => ex_move rfl) ?_
      refine mixz_p rfl ?_
      refine mix1_val (fun wz hz => ex_move rfl) ?_
      refine mixz_p rfl ?_
      refine mix1_test (fun wz hz => ex_lss rfl rfl) (fun hp38 => ?_) (fun hp38 => ?_)
      · obtain ⟨p1, hp1⟩ := get_of (l := ps) (j := i) (by omega)
        have hql := lt_of_get hp1
        obtain ⟨a1, ha1⟩ := hr.some_ (by omega)
        subst ha1
        refine mixz_p rfl ?_
        refine mix1_val (fun wz hz => ex_move rfl) ?_
        refine nZ49 ?_
        refine mixz_p rfl ?_
        refine mix1_yes rfl ?_
        refine mix1_val (fun wz hz => ex_move rfl) ?_
        refine mixz_p rfl ?_
        refine mix1_yes rfl ?_
        refine mix1_val (fun wz hz => ex_move rfl) ?_
        refine mixz_p rfl ?_
        refine mix1_yes rfl ?_
        refine mix1_val (fun wz hz => ex_move rfl) ?_
        refine mixz_p rfl ?_
        refine mix1_yes rfl ?_
        refine mix1_val (fun wz hz => ex_idx Tryz.underlying38 ty35 rfl rfl rfl hql rfl) ?_
        refine nZ49 ?_
        refine mixz_p rfl ?_
        refine mix1_yes rfl ?_
        refine mix1_val (fun wz hz => ex_loadN ty35 rfl (vs := p1) (hp.at hp1) ((hr.to0 hz).elem hp hp1)) ?_
        refine mixz_p rfl ?_
        refine mix1_yes rfl ?_
        refine mix1_val (fun wz hz => ex_loadN ty35 rfl (vs := tc) htc (hz.cellsR (i := 0) rfl (by rw [List.drop_zero, List.take_length]))) ?_
        refine mixz_o rfl ?_
        refine ops_yes rfl ?_
        refine ops_call_val (ex_call_val hC.go rfl rfl) (hC.does w3 p1 (mem_of hp1)) ?_
        intro w4 Hd
        have H4 := H3.callN Hd
        refine ops_nil ?_
        refine ⟨fun hne => H4.pick [0] (by decide), ?_⟩
        refine nZ49 ?_
        refine mixz_p rfl ?_
        refine mix1_yes rfl ?_
        refine mix1_test (fun wz hz => ex_eql rfl rfl) (fun hp47 => ?_) (fun hp47 => ?_)
        · skip
          refine mixz_p rfl ?_
          refine mix1_val (fun wz hz => ex_pick_t rfl rfl) ?_
          refine mixz_p rfl ?_
          refine mix1_val (fun wz hz => ex_assign rfl) ?_
          refine mixz_o rfl ?_
          refine ops_val (ex_assign rfl) ?_
          refine ops_nil ?_
          refine ⟨fun hne => absurd rfl hne, ?_⟩
          refine nZ49 ?_
          refine mixz_nil ?_
          refine nR49 ?_
          refine run_ret ?_
          refine fin_ret2 rfl rfl rfl ?_
          exact ⟨i, true, rfl, ⟨by omega, hlo, hhi, fun _ => ⟨p1, hp1, hp47⟩, fun h => by cases h⟩, H4.noRows⟩
        · skip
          refine mixz_p rfl ?_
          refine mix1_val (fun wz hz => ex_pick_t rfl rfl) ?_
          refine mixz_p rfl ?_
          refine mix1_val (fun wz hz => ex_assign rfl) ?_
          refine mixz_o rfl ?_
          refine ops_val (ex_assign rfl) ?_
          refine ops_nil ?_
          refine ⟨fun hne => absurd rfl hne, ?_⟩
          refine nZ49 ?_
          refine mixz_nil ?_
          refine nR49 ?_
          refine run_ret ?_
          refine fin_ret2 rfl rfl rfl ?_
          exact ⟨i, false, rfl, ⟨by omega, hlo, hhi, (fun h => by cases h), fun _ p h2 => by
            rw [hp1] at h2
            cases h2
            exact hp47⟩, H4.noRows⟩
      · skip
        refine mixz_p rfl ?_
        refine mix1_val (fun wz hz => ex_move rfl) ?_
        refine nZ49 ?_
        refine mixz_p rfl ?_
        refine mix1_no rfl ?_
        refine mixz_p rfl ?_
        refine mix1_no rfl ?_
        refine nZ49 ?_
        refine mixz_p rfl ?_
        refine mix1_no rfl ?_
        refine mixz_p rfl ?_
        refine mix1_no rfl ?_
        refine nZ49 ?_
        refine mixz_p rfl ?_
        refine mix1_no rfl ?_
        refine mixz_p rfl ?_
        refine mix1_no rfl ?_
        refine nZ49 ?_
        refine mixz_o rfl ?_
        refine ops_no rfl ?_
        refine ops_nil ?_
        refine ⟨fun hne => H3.pick [0] (by decide), ?_⟩
        refine mixz_p rfl ?_
        refine mix1_no rfl ?_
        refine nZ49 ?_
        refine mixz_p rfl ?_
        refine mix1_val (fun wz hz => ex_pick_f rfl rfl) ?_
        refine mixz_p rfl ?_
        refine mix1_val (fun wz hz => ex_assign rfl) ?_
        refine mixz_o rfl ?_
        refine ops_val (ex_assign rfl) ?_
        refine ops_nil ?_
        refine ⟨fun hne => absurd rfl hne, ?_⟩
        refine nZ49 ?_
        refine mixz_nil ?_
        refine nR49 ?_
        refine run_ret ?_
        refine fin_ret2 rfl rfl rfl ?_
        exact ⟨i, false, rfl, ⟨by omega, hlo, hhi, (fun h => by cases h), fun _ p h2 => by have := lt_of_get h2; omega⟩, H3.noRows⟩
end Go.Proofs.YtjoeklkmnfaabaaGreat
/- Walks of layer 2, printed by wip/gen/codec.py. -/
namespace Go.Proofs.YtjoeklkmnfaabaaGreat
open Go Go.RowKit
set_option linter.unusedVariables false
attribute [local irreducible] Still Ops Does Cd
set_option maxRecDepth 100000 in
set_option maxHeartbeats 16000000 in
theorem insertV (g : Option Nat) (cap i gv n : Nat) (ps : List (List Value)) (hn : ps.length = n) (vs sp : List Value) (w0 : World) (H0 : Hp w0 w0 (bl [((g, 77, ps.flatten ++ sp) : Ent)]) [((g, 77, ps.flatten ++ sp) : Ent)]) (hp : Pl 4 ps) (ho : ∀ p ∈ ps, p.all (·.oneCell') = true) (hl : ps.length ≤ cap) (hcz : cap * 4 ≤ (ps.flatten ++ sp).length) (hg0 : g = none → cap = 0) (hi : i ≤ ps.length) (hv : w0.heap[gv]? = some (.cells vs.toArray 77 (0, 0))) (hvl : vs.length = 4) (hvo : vs.all (·.oneCell') = true) (hgv : gv ∉ bl [((g, 77, ps.flatten ++ sp) : Ent)]) (hb : (ps.length + 1) * 48 ≤ 211106232532992) :
    Does Tryz.prog 166 #[.slice (hd g) n cap, .int .i64 (i : Int), .slice (some ⟨gv, 0, none⟩) 1 1] w0 (fun r w' => ∃ g' cap' sp', r = .slice (hd g') (ps.length + 1) cap' ∧ ps.length + 1 ≤ cap' ∧ cap' * 4 ≤ ((ps.take i ++ vs :: ps.drop i).flatten ++ sp').length ∧ (g' = none → cap' = 0) ∧ Hp w0 w' (bl [((g, 77, ps.flatten ++ sp) : Ent)]) [((g', 77, (ps.take i ++ vs :: ps.drop i).flatten ++ sp') : Ent)]) := by
  refine does_of Tryz.func166 Tryz.ntmps166 rfl ?_
  refine nR95 ?_
  subst hn
  have H := H0
  have hrd := H.rd (i := 0) rfl hp.len (by decide)
  have hones := ones_flatten ho
  refine run_seq ?_
  refine run_region ?_
  refine ops_val (ex_assign rfl) ?_
  refine ops_nil ?_
  refine nR95 ?_
  refine run_seq ?_
  refine run_region ?_
  refine ops_val (ex_move rfl) ?_
  refine ops_val (ex_move rfl) ?_
  refine ops_val (ex_cutLo Tryz.underlying94 ty77 rfl rfl ⟨by omega, by omega⟩) ?_
  refine ops_nil ?_
  refine nR95 ?_
  refine run_seq ?_
  refine run_region ?_
  refine ops_val (ex_move rfl) ?_
  refine ops_val (ex_len_slice Tryz.underlying94 rfl) ?_
  refine ops_val (ex_assign rfl) ?_
  refine ops_nil ?_
  refine nR95 ?_
  refine run_seq ?_
  refine run_seq ?_
  refine run_region ?_
  refine ops_val (ex_move rfl) ?_
  refine ops_false (ex_eql rfl rfl) (by decide) ?_
  refine ops_nil ?_
  refine nR95 ?_
  refine run_cond_false rfl ?_
  refine run_skip ?_
  refine run_seq ?_
  refine run_region ?_
  refine ops_val (ex_move rfl) ?_
  refine ops_val (ex_len_slice Tryz.underlying94 rfl) ?_
  refine ops_val (ex_assign rfl) ?_
  refine ops_nil ?_
  refine nR95 ?_
  refine run_seq ?_
  refine run_seq ?_
  refine run_region ?_
  refine ops_val (ex_move rfl) ?_
  refine ops_val (ex_move rfl) ?_
  refine ops_test (ex_eql rfl rfl) (fun hp22 => ?_) (fun hp22 => ?_)
  · obtain rfl : i = ps.length := by omega
    refine ops_nil ?_
    refine nR95 ?_
    refine run_cond_true rfl ?_
    refine run_seq ?_
    refine run_region ?_
    refine ops_val (ex_move rfl) ?_
    refine ops_val (ex_move rfl) ?_
    have hvr := (⟨by rw [hvl], fun a ha jx u hu => by cases ha; rw [addn, Nat.zero_add]; exact (by simp [World.cell?, H.keep hv hgv, hu]), fun h => by cases h⟩ : Rd w0 (some ⟨gv, 0, none⟩) 1 4 vs)
    refine ops_append Tryz.underlying94 ty77 (by decide) H 0 (g := g) (xs := ps.flatten) (sp := sp) rfl rfl hp.len hcz hl hg0 rfl hvr hvo (by omega) (by omega) (by decide) ?_
    intro w1 g2 cap2 sp2 H1 hcz2 hl2 hg2
    refine ops_val (ex_assign rfl) ?_
    refine ops_nil ?_
    refine nR95 ?_
    refine run_ret ?_
    refine fin_ret1 rfl rfl ?_
    have e1 : (ps.take ps.length ++ vs :: ps.drop ps.length).flatten = ps.flatten ++ vs := by rw [List.take_length, List.drop_length]; simp
    refine ⟨g2, cap2, sp2, rfl, hl2, by rw [e1]; exact hcz2, hg2, ?_⟩
    rw [e1]
    exact H1
  · have hil : i < ps.length := by omega
    obtain ⟨gx, rfl⟩ := own_some H (i := 0) rfl (by rw [List.length_append, hp.len]; have : 0 < ps.length * 4 := Nat.mul_pos (by omega) (by decide); omega)
    refine ops_nil ?_
    refine nR95 ?_
    refine run_cond_false rfl ?_
    refine run_skip ?_
    refine run_seq ?_
    refine run_seq ?_
    refine run_region ?_
    refine ops_val (ex_move rfl) ?_
    refine ops_val (ex_move rfl) ?_
    refine ops_val (ex_add rfl rfl (IntWalk.i64_in _ (by omega))) ?_
    refine ops_val (ex_move rfl) ?_
    refine nO95 ?_
    refine ops_val (ex_cap_slice Tryz.underlying94 rfl) ?_
    refine ops_test (ex_gtr rfl rfl) (fun hp31 => ?_) (fun hp31 => ?_)
    · skip
      refine ops_nil ?_
      refine nR95 ?_
      refine run_cond_true rfl ?_
      refine run_seq ?_
      refine run_region ?_
      refine ops_val (ex_move rfl) ?_
      refine ops_val (ex_move rfl) ?_
      refine ops_val (ex_hi Tryz.underlying94 ty77 rfl rfl rfl (by omega)) ?_
      refine ops_val (ex_move rfl) ?_
      refine nO95 ?_
      refine ops_val (ex_move rfl) ?_
      refine ops_val (ex_add rfl rfl (IntWalk.i64_in _ (by omega))) ?_
      refine ops_val (ex_move rfl) ?_
      refine ops_val (ex_sub rfl rfl ((IntWalk.i64_in _ (by omega)).trans (show ((ps.length : Int) + 1 - (i : Int)) = ((ps.length + 1 - i : Nat) : Int) by omega))) ?_
      refine nO95 ?_
      refine ops_append0 Tryz.underlying94 Tryz.underlying3 ty77 (by decide) H rfl (hrd.headN (by omega) (fun h => by cases h)) rfl (by omega) (by omega) (by omega) (by omega) (by decide) ?_
      intro w1 g2 cap2 sp2 H1 hcz2 hl2
      refine ops_val (ex_assign rfl) ?_
      refine ops_nil ?_
      refine nR95 ?_
      refine run_seq ?_
      refine run_region ?_
      refine ops_val (ex_move rfl) ?_
      refine ops_val (ex_move rfl) ?_
      have hie : i + (ps.length + 1 - i) = ps.length + 1 := by omega
      have hrow2 : (ps.flatten.take (i * 4) ++ initL [.int .i64 0, .int .i64 0, .int .i64 0, .slice none 0 0] (ps.length + 1 - i)).length = (ps.length + 1) * 4 := by
        rw [List.length_append, List.length_take, hp.len, initL_length, Nat.min_eq_left (Nat.mul_le_mul_right _ (by omega))]
        show i * 4 + (ps.length + 1 - i) * 4 = _
        rw [← Nat.add_mul, hie]
      have hlv : (i + 1) * 4 ≤ (ps.length + 1) * 4 := Nat.mul_le_mul_right _ (by omega)
      have hvr := (⟨by rw [hvl], fun a ha jx u hu => by cases ha; rw [addn, Nat.zero_add]; exact (by simp [World.cell?, H1.keep hv hgv, hu]), fun h => by cases h⟩ : Rd w1 (some ⟨gv, 0, none⟩) 1 4 vs)
      refine ops_val (ex_lo Tryz.underlying94 ty77 rfl rfl rfl (by omega) (by omega)) ?_
      refine ops_val (ex_move rfl) ?_
      refine nO95 ?_
      refine ops_copyN Tryz.underlying94 ty77 H1 1 (o := 0 + i * 4) (vs := vs) (by first | rfl | (rw [← addn]; rfl)) rfl rfl (by rw [hvl]; show 4 = Nat.min 1 (i + (ps.length + 1 - i) - i) * 4; rw [nminl]; omega) (fun jx u hu => hvr.cells _ rfl jx u hu) (by rw [List.length_append, hrow2, hvl]; omega) hvo ?_
      intro w2 H2
      refine ops_nil ?_
      refine nR95 ?_
      refine run_seq ?_
      refine run_mixZ 8 [(true, 0), (true, 1), (true, 2), (true, 3), (true, 4), (true, 5), (true, 6), (true, 7), (false, 8)] H2 [0, 1] mixed (by decide) (by kernel_rfl) ?_
      rintro w3 hw3
      have H3 := Hp.drew H2; rw [← hw3] at H3
      refine mixz_p rfl ?_
      refine mix1_val (fun wz hz => ex_move rfl) ?_
      refine mixz_p rfl ?_
      refine mix1_val (fun wz hz => ex_move rfl) ?_
      refine mixz_p rfl ?_
      refine mix1_val (fun wz hz => ex_move rfl) ?_
      refine mixz_p rfl ?_
      refine mix1_val (fun wz hz => ex_add rfl rfl (IntWalk.i64_in _ (by omega))) ?_
      refine nZ95 ?_
      refine mixz_p rfl ?_
      refine mix1_val (fun wz hz => ex_lo Tryz.underlying94 ty77 rfl rfl (i := i + 1) (by omega) (by omega) (by omega)) ?_
      refine mixz_p rfl ?_
      refine mix1_val (fun wz hz => ex_move rfl) ?_
      refine mixz_p rfl ?_
      refine mix1_val (fun wz hz => ex_move rfl) ?_
      refine mixz_p rfl ?_
      refine mix1_val (fun wz hz => ex_lo Tryz.underlying94 ty77 rfl rfl rfl (by omega) (by omega)) ?_
      refine nZ95 ?_
      refine mixz_o rfl ?_
      have hdl : (ps.flatten.drop (i * 4)).length = (ps.length - i) * 4 := by rw [List.length_drop, hp.len, ← Nat.sub_mul]
      refine ops_copyN Tryz.underlying94 ty77 H3 1 (o := 0 + (i + 1) * 4) (vs := ps.flatten.drop (i * 4)) (by first | rfl | (rw [← addn]; rfl)) rfl rfl (by rw [hdl]; show _ = Nat.min (ps.length - i) (i + (ps.length + 1 - i) - (i + 1)) * 4; rw [nminl]; omega) (fun jx u hu => by
        rw [add_add, addn, Nat.zero_add]
        exact H3.cell (i := 0) rfl (by rw [List.getElem?_append_left (by have := lt_of_get hu; rw [List.length_drop] at this; omega)]; rwa [List.getElem?_drop] at hu)) (by rw [putAt_len (by rw [List.length_append, hrow2, hvl]; omega), List.length_append, hrow2, hdl, Nat.zero_add, ← Nat.add_mul, show i + 1 + (ps.length - i) = ps.length + 1 by omega]; omega) (by rw [List.all_eq_true] at hones ⊢; exact fun x hx => hones x (List.mem_of_mem_drop hx)) ?_
      intro w4 H4
      refine ops_nil ?_
      refine ⟨fun hne => absurd rfl hne, ?_⟩
      refine nZ95 ?_
      refine mixz_nil ?_
      refine nR95 ?_
      refine run_seq ?_
      refine run_region ?_
      refine ops_val (ex_move rfl) ?_
      refine ops_val (ex_assign rfl) ?_
      refine ops_nil ?_
      refine nR95 ?_
      refine run_ret ?_
      refine fin_ret1 rfl rfl ?_
      have HZ := H4.pick [1] (by decide)
      change Hp _ _ _ [((some g2, 77, putAt (putAt _ (0 + i * 4) _) (0 + (i + 1) * 4) _) : Ent)] at HZ
      rw [Nat.zero_add, Nat.zero_add, ins_new (sp := sp2) hp rfl (by omega) hvl (by rw [initL_length]; rfl) rfl] at HZ
      refine ⟨some g2, cap2, sp2, by rw [hie], by omega, ?_, (fun h => by cases h), HZ⟩
      rw [List.length_append] at hcz2 ⊢
      rw [hrow2] at hcz2
      have hp2 : Pl 4 (ps.take i ++ vs :: ps.drop i) := (hp.sub fun x hx => List.mem_of_mem_take hx).app fun x hx => by
        rcases List.mem_cons.1 hx with rfl | hx
        · exact hvl
        · exact hp x (List.mem_of_mem_drop hx)
      rw [hp2.len]
      have : (ps.take i ++ vs :: ps.drop i).length = ps.length + 1 := by rw [List.length_append, List.length_cons, List.length_take, List.length_drop]; omega
      rw [this]; exact hcz2
    · skip
      refine ops_nil ?_
      refine nR95 ?_
      refine run_cond_false rfl ?_
      refine run_skip ?_
      refine run_seq ?_
      refine run_region ?_
      refine ops_val (ex_move rfl) ?_
      refine ops_val (ex_move rfl) ?_
      refine ops_val (ex_move rfl) ?_
      refine ops_val (ex_add rfl rfl (IntWalk.i64_in _ (by omega))) ?_
      refine nO95 ?_
      have hspl : 4 ≤ sp.length := by
        rw [List.length_append, hp.len] at hcz
        have : (ps.length + 1) * 4 ≤ cap * 4 := Nat.mul_le_mul_right _ (by omega)
        omega
      refine ops_val (ex_hi Tryz.underlying94 ty77 rfl rfl (i := ps.length + 1) (by omega) (by omega)) ?_
      refine ops_val (ex_assign rfl) ?_
      refine ops_nil ?_
      refine nR95 ?_
      refine run_seq ?_
      refine run_seq ?_
      refine run_region ?_
      refine ops_val (ex_move rfl) ?_
      refine ops_val (ex_move rfl) ?_
      refine ops_val (ex_move rfl) ?_
      refine ops_val (ex_move rfl) ?_
      refine nO95 ?_
      refine ops_val (ex_add rfl rfl (IntWalk.i64_in _ (by omega))) ?_
      refine ops_val (ex_lo Tryz.underlying94 ty77 rfl rfl (i := i + 1) (by omega) (by omega) (by omega)) ?_
      have hgvh := H.keep hv hgv
      have hgxh := H.at (i := 0) rfl
      have hne : gv ≠ gx := fun h => hgv (by rw [h]; simp [bl])
      refine ops_extern (fn := (Tryz.prog.funcs[192]?).get!) (e := Extern.SlicesOverlaps.overlaps #[94, 94] #[4]) (v := .bool false) (by kernel_rfl) (by kernel_rfl) (by kernel_rfl) (by kernel_rfl) (by kernel_rfl) rfl (Lib.run_overlaps_apart w0 94 4 77 Tryz.underlying94 4 (fun w => run_sizeOf ty77) ⟨gv, 0, none⟩ _ 1 1 _ _ (by rw [addn]; exact hne) 77 77 4 _ (by simp [World.shape?, hgvh]; exact hvl) (by rw [addn]; simp only [World.shape?, hgxh]; rfl) (by simp only [List.size_toArray, List.length_append]; omega) (by simp [World.frozen?, hgvh]) (by simp [World.frozen?, hgvh])) ?_
      refine ops_val (ex_not rfl) ?_
      refine ops_nil ?_
      refine nR95 ?_
      refine run_cond_true rfl ?_
      refine run_seq ?_
      refine run_mixZ 8 [(true, 0), (true, 1), (true, 2), (true, 3), (true, 4), (true, 5), (true, 6), (true, 7), (false, 8)] H [0] mixed (by decide) (by kernel_rfl) ?_
      rintro w1 hw1
      have H1 := Hp.drew H; rw [← hw1] at H1
      refine mixz_p rfl ?_
      refine mix1_val (fun wz hz => ex_move rfl) ?_
      refine mixz_p rfl ?_
      refine mix1_val (fun wz hz => ex_move rfl) ?_
      refine mixz_p rfl ?_
      refine mix1_val (fun wz hz => ex_move rfl) ?_
      refine mixz_p rfl ?_
      refine mix1_val (fun wz hz => ex_add rfl rfl (IntWalk.i64_in _ (by omega))) ?_
      refine nZ95 ?_
      refine mixz_p rfl ?_
      refine mix1_val (fun wz hz => ex_lo Tryz.underlying94 ty77 rfl rfl (i := i + 1) (by omega) (by omega) (by omega)) ?_
      refine mixz_p rfl ?_
      refine mix1_val (fun wz hz => ex_move rfl) ?_
      refine mixz_p rfl ?_
      refine mix1_val (fun wz hz => ex_move rfl) ?_
      refine mixz_p rfl ?_
      refine mix1_val (fun wz hz => ex_lo Tryz.underlying94 ty77 rfl rfl rfl (by omega) (by omega)) ?_
      refine nZ95 ?_
      refine mixz_o rfl ?_
      have hdl : (ps.flatten.drop (i * 4)).length = (ps.length - i) * 4 := by rw [List.length_drop, hp.len, ← Nat.sub_mul]
      have hlv : (i + 1) * 4 + (ps.length - i) * 4 = (ps.length + 1) * 4 := by rw [← Nat.add_mul, show i + 1 + (ps.length - i) = ps.length + 1 by omega]
      have hlw : (ps.length + 1) * 4 = ps.length * 4 + 4 := by omega
      refine ops_copyN Tryz.underlying94 ty77 H1 0 (o := 0 + (i + 1) * 4) (vs := ps.flatten.drop (i * 4)) (by first | rfl | (rw [← addn]; rfl)) rfl rfl (by rw [hdl]; show _ = Nat.min (ps.length + 1 - i) (ps.length + 1 - (i + 1)) * 4; rw [show Nat.min (ps.length + 1 - i) (ps.length + 1 - (i + 1)) = ps.length - i from (by show min _ _ = _; omega)]) (fun jx u hu => by
        rw [add_add, addn, Nat.zero_add]
        exact H1.cell (i := 0) rfl (by rw [List.getElem?_append_left (by have := lt_of_get hu; rw [List.length_drop] at this; omega)]; rwa [List.getElem?_drop] at hu)) (by rw [List.length_append, hp.len, hdl]; omega) (by rw [List.all_eq_true] at hones ⊢; exact fun x hx => hones x (List.mem_of_mem_drop hx)) ?_
      intro w2 H2
      refine ops_nil ?_
      refine ⟨fun hne => absurd rfl hne, ?_⟩
      refine nZ95 ?_
      refine mixz_nil ?_
      refine nR95 ?_
      refine run_seq ?_
      refine run_region ?_
      refine ops_val (ex_move rfl) ?_
      refine ops_val (ex_move rfl) ?_
      refine ops_val (ex_lo Tryz.underlying94 ty77 rfl rfl rfl (by omega) (by omega)) ?_
      refine ops_val (ex_move rfl) ?_
      refine nO95 ?_
      have hvr := (⟨by rw [hvl], fun a ha jx u hu => by cases ha; rw [addn, Nat.zero_add]; exact (by simp [World.cell?, H2.keep hv hgv, hu]), fun h => by cases h⟩ : Rd w2 (some ⟨gv, 0, none⟩) 1 4 vs)
      refine ops_copyN Tryz.underlying94 ty77 H2 0 (o := 0 + i * 4) (vs := vs) (by first | rfl | (rw [← addn]; rfl)) rfl rfl (by rw [hvl]; show 4 = Nat.min 1 (ps.length + 1 - i) * 4; rw [nminl]; omega) (fun jx u hu => hvr.cells _ rfl jx u hu) (by rw [putAt_len (by rw [List.length_append, hp.len, hdl]; omega), List.length_append, hp.len, hvl]; have : i * 4 ≤ ps.length * 4 := Nat.mul_le_mul_right _ (by omega); omega) hvo ?_
      intro w3 H3
      refine ops_nil ?_
      refine nR95 ?_
      refine run_seq ?_
      refine run_region ?_
      refine ops_val (ex_move rfl) ?_
      refine ops_val (ex_assign rfl) ?_
      refine ops_nil ?_
      refine nR95 ?_
      refine run_ret ?_
      refine fin_ret1 rfl rfl ?_
      have HZ := H3
      change Hp _ _ _ [((some gx, 77, putAt (putAt _ (0 + (i + 1) * 4) _) (0 + i * 4) _) : Ent)] at HZ
      rw [Nat.zero_add, Nat.zero_add, ins_in hp rfl (by omega) hvl hspl] at HZ
      have hp2 : Pl 4 (ps.take i ++ vs :: ps.drop i) := (hp.sub fun x hx => List.mem_of_mem_take hx).app fun x hx => by
        rcases List.mem_cons.1 hx with rfl | hx
        · exact hvl
        · exact hp x (List.mem_of_mem_drop hx)
      have hl3 : (ps.take i ++ vs :: ps.drop i).length = ps.length + 1 := by rw [List.length_append, List.length_cons, List.length_take, List.length_drop]; omega
      refine ⟨some gx, cap, sp.drop 4, rfl, by omega, ?_, (fun h => by cases h), HZ⟩
      rw [List.length_append, hp.len] at hcz
      rw [List.length_append, hp2.len, hl3, List.length_drop]
      omega
set_option maxRecDepth 100000 in
set_option maxHeartbeats 16000000 in
theorem insertR (g : Option Nat) (cap i gv n : Nat) (ps : List (List Value)) (hn : ps.length = n) (vs sp : List Value) (w0 : World) (H0 : Hp w0 w0 (bl [((g, 35, ps.flatten ++ sp) : Ent)]) [((g, 35, ps.flatten ++ sp) : Ent)]) (hp : Pl 4 ps) (ho : ∀ p ∈ ps, p.all (·.oneCell') = true) (hl : ps.length ≤ cap) (hcz : cap * 4 ≤ (ps.flatten ++ sp).length) (hg0 : g = none → cap = 0) (hi : i ≤ ps.length) (hv : w0.heap[gv]? = some (.cells vs.toArray 35 (0, 0))) (hvl : vs.length = 4) (hvo : vs.all (·.oneCell') = true) (hgv : gv ∉ bl [((g, 35, ps.flatten ++ sp) : Ent)]) (hb : (ps.length + 1) * 40 ≤ 211106232532992) :
    Does Tryz.prog 156 #[.slice (hd g) n cap, .int .i64 (i : Int), .slice (some ⟨gv, 0, none⟩) 1 1] w0 (fun r w' => ∃ g' cap' sp', r = .slice (hd g') (ps.length + 1) cap' ∧ ps.length + 1 ≤ cap' ∧ cap' * 4 ≤ ((ps.take i ++ vs :: ps.drop i).flatten ++ sp').length ∧ (g' = none → cap' = 0) ∧ Hp w0 w' (bl [((g, 35, ps.flatten ++ sp) : Ent)]) [((g', 35, (ps.take i ++ vs :: ps.drop i).flatten ++ sp') : Ent)]) := by
  refine does_of Tryz.func156 Tryz.ntmps156 rfl ?_
  refine nR95 ?_
  subst hn
  have H := H0
  have hrd := H.rd (i := 0) rfl hp.len (by decide)
  have hones := ones_flatten ho
  refine run_seq ?_
  refine run_region ?_
  refine ops_val (ex_assign rfl) ?_
  refine ops_nil ?_
  refine nR95 ?_
  refine run_seq ?_
  refine run_region ?_
  refine ops_val (ex_move rfl) ?_
  refine ops_val (ex_move rfl) ?_
  refine ops_val (ex_cutLo Tryz.underlying38 ty35 rfl rfl ⟨by omega, by omega⟩) ?_
  refine ops_nil ?_
  refine nR95 ?_
  refine run_seq ?_
  refine run_region ?_
  refine ops_val (ex_move rfl) ?_
  refine ops_val (ex_len_slice Tryz.underlying38 rfl) ?_
  refine ops_val (ex_assign rfl) ?_
  refine ops_nil ?_
  refine nR95 ?_
  refine run_seq ?_
  refine run_seq ?_
  refine run_region ?_
  refine ops_val (ex_move rfl) ?_
  refine ops_false (ex_eql rfl rfl) (by decide) ?_
  refine ops_nil ?_
  refine nR95 ?_
  refine run_cond_false rfl ?_
  refine run_skip ?_
  refine run_seq ?_
  refine run_region ?_
  refine ops_val (ex_move rfl) ?_
  refine ops_val (ex_len_slice Tryz.underlying38 rfl) ?_
  refine ops_val (ex_assign rfl) ?_
  refine ops_nil ?_
  refine nR95 ?_
  refine run_seq ?_
  refine run_seq ?_
  refine run_region ?_
  refine ops_val (ex_move rfl) ?_
  refine ops_val (ex_move rfl) ?_
  refine ops_test (ex_eql rfl rfl) (fun hp22 => ?_) (fun hp22 => ?_)
  · obtain rfl : i = ps.length := by omega
    refine ops_nil ?_
    refine nR95 ?_
    refine run_cond_true rfl ?_
    refine run_seq ?_
    refine run_region ?_
    refine ops_val (ex_move rfl) ?_
    refine ops_val (ex_move rfl) ?_
    have hvr := (⟨by rw [hvl], fun a ha jx u hu => by cases ha; rw [addn, Nat.zero_add]; exact (by simp [World.cell?, H.keep hv hgv, hu]), fun h => by cases h⟩ : Rd w0 (some ⟨gv, 0, none⟩) 1 4 vs)
    refine ops_append Tryz.underlying38 ty35 (by decide) H 0 (g := g) (xs := ps.flatten) (sp := sp) rfl rfl hp.len hcz hl hg0 rfl hvr hvo (by omega) (by omega) (by decide) ?_
    intro w1 g2 cap2 sp2 H1 hcz2 hl2 hg2
    refine ops_val (ex_assign rfl) ?_
    refine ops_nil ?_
    refine nR95 ?_
    refine run_ret ?_
    refine fin_ret1 rfl rfl ?_
    have e1 : (ps.take ps.length ++ vs :: ps.drop ps.length).flatten = ps.flatten ++ vs := by rw [List.take_length, List.drop_length]; simp
    refine ⟨g2, cap2, sp2, rfl, hl2, by rw [e1]; exact hcz2, hg2, ?_⟩
    rw [e1]
    exact H1
  · have hil : i < ps.length := by omega
    obtain ⟨gx, rfl⟩ := own_some H (i := 0) rfl (by rw [List.length_append, hp.len]; have : 0 < ps.length * 4 := Nat.mul_pos (by omega) (by decide); omega)
    refine ops_nil ?_
    refine nR95 ?_
    refine run_cond_false rfl ?_
    refine run_skip ?_
    refine run_seq ?_
    refine run_seq ?_
    refine run_region ?_
    refine ops_val (ex_move rfl) ?_
    refine ops_val (ex_move rfl) ?_
    refine ops_val (ex_add rfl rfl (IntWalk.i64_in _ (by omega))) ?_
    refine ops_val (ex_move rfl) ?_
    refine nO95 ?_
    refine ops_val (ex_cap_slice Tryz.underlying38 rfl) ?_
    refine ops_test (ex_gtr rfl rfl) (fun hp31 => ?_) (fun hp31 => ?_)
    · skip
      refine ops_nil ?_
      refine nR95 ?_
      refine run_cond_true rfl ?_
      refine run_seq ?_
      refine run_region ?_
      refine ops_val (ex_move rfl) ?_
      refine ops_val (ex_move rfl) ?_
      refine ops_val (ex_hi Tryz.underlying38 ty35 rfl rfl rfl (by omega)) ?_
      refine ops_val (ex_move rfl) ?_
      refine nO95 ?_
      refine ops_val (ex_move rfl) ?_
      refine ops_val (ex_add rfl rfl (IntWalk.i64_in _ (by omega))) ?_
      refine ops_val (ex_move rfl) ?_
      refine ops_val (ex_sub rfl rfl ((IntWalk.i64_in _ (by omega)).trans (show ((ps.length : Int) + 1 - (i : Int)) = ((ps.length + 1 - i : Nat) : Int) by omega))) ?_
      refine nO95 ?_
      refine ops_append0 Tryz.underlying38 Tryz.underlying3 ty35 (by decide) H rfl (hrd.headN (by omega) (fun h => by cases h)) rfl (by omega) (by omega) (by omega) (by omega) (by decide) ?_
      intro w1 g2 cap2 sp2 H1 hcz2 hl2
      refine ops_val (ex_assign rfl) ?_
      refine ops_nil ?_
      refine nR95 ?_
      refine run_seq ?_
      refine run_region ?_
      refine ops_val (ex_move rfl) ?_
      refine ops_val (ex_move rfl) ?_
      have hie : i + (ps.length + 1 - i) = ps.length + 1 := by omega
      have hrow2 : (ps.flatten.take (i * 4) ++ initL [.int .i64 0, .string .empty, .int .i64 0, .int .i64 0] (ps.length + 1 - i)).length = (ps.length + 1) * 4 := by
        rw [List.length_append, List.length_take, hp.len, initL_length, Nat.min_eq_left (Nat.mul_le_mul_right _ (by omega))]
        show i * 4 + (ps.length + 1 - i) * 4 = _
        rw [← Nat.add_mul, hie]
      have hlv : (i + 1) * 4 ≤ (ps.length + 1) * 4 := Nat.mul_le_mul_right _ (by omega)
      have hvr := (⟨by rw [hvl], fun a ha jx u hu => by cases ha; rw [addn, Nat.zero_add]; exact (by simp [World.cell?, H1.keep hv hgv, hu]), fun h => by cases h⟩ : Rd w1 (some ⟨gv, 0, none⟩) 1 4 vs)
      refine ops_val (ex_lo Tryz.underlying38 ty35 rfl rfl rfl (by omega) (by omega)) ?_
      refine ops_val (ex_move rfl) ?_
      refine nO95 ?_
      refine ops_copyN Tryz.underlying38 ty35 H1 1 (o := 0 + i * 4) (vs := vs) (by first | rfl | (rw [← addn]; rfl)) rfl rfl (by rw [hvl]; show 4 = Nat.min 1 (i + (ps.length + 1 - i) - i) * 4; rw [nminl]; omega) (fun jx u hu => hvr.cells _ rfl jx u hu) (by rw [List.length_append, hrow2, hvl]; omega) hvo ?_
      intro w2 H2
      refine ops_nil ?_
      refine nR95 ?_
      refine run_seq ?_
      refine run_mixZ 8 [(true, 0), (true, 1), (true, 2), (true, 3), (true, 4), (true, 5), (true, 6), (true, 7), (false, 8)] H2 [0, 1] mixed (by decide) (by kernel_rfl) ?_
      rintro w3 hw3
      have H3 := Hp.drew H2; rw [← hw3] at H3
      refine mixz_p rfl ?_
      refine mix1_val (fun wz hz => ex_move rfl) ?_
      refine mixz_p rfl ?_
      refine mix1_val (fun wz hz => ex_move rfl) ?_
      refine mixz_p rfl ?_
      refine mix1_val (fun wz hz => ex_move rfl) ?_
      refine mixz_p rfl ?_
      refine mix1_val (fun wz hz => ex_add rfl rfl (IntWalk.i64_in _ (by omega))) ?_
      refine nZ95 ?_
      refine mixz_p rfl ?_
      refine mix1_val (fun wz hz => ex_lo Tryz.underlying38 ty35 rfl rfl (i := i + 1) (by omega) (by omega) (by omega)) ?_
      refine mixz_p rfl ?_
      refine mix1_val (fun wz hz => ex_move rfl) ?_
      refine mixz_p rfl ?_
      refine mix1_val (fun wz hz => ex_move rfl) ?_
      refine mixz_p rfl ?_
      refine mix1_val (fun wz hz => ex_lo Tryz.underlying38 ty35 rfl rfl rfl (by omega) (by omega)) ?_
      refine nZ95 ?_
      refine mixz_o rfl ?_
      have hdl : (ps.flatten.drop (i * 4)).length = (ps.length - i) * 4 := by rw [List.length_drop, hp.len, ← Nat.sub_mul]
      refine ops_copyN Tryz.underlying38 ty35 H3 1 (o := 0 + (i + 1) * 4) (vs := ps.flatten.drop (i * 4)) (by first | rfl | (rw [← addn]; rfl)) rfl rfl (by rw [hdl]; show _ = Nat.min (ps.length - i) (i + (ps.length + 1 - i) - (i + 1)) * 4; rw [nminl]; omega) (fun jx u hu => by
        rw [add_add, addn, Nat.zero_add]
        exact H3.cell (i := 0) rfl (by rw [List.getElem?_append_left (by have := lt_of_get hu; rw [List.length_drop] at this; omega)]; rwa [List.getElem?_drop] at hu)) (by rw [putAt_len (by rw [List.length_append, hrow2, hvl]; omega), List.length_append, hrow2, hdl, Nat.zero_add, ← Nat.add_mul, show i + 1 + (ps.length - i) = ps.length + 1 by omega]; omega) (by rw [List.all_eq_true] at hones ⊢; exact fun x hx => hones x (List.mem_of_mem_drop hx)) ?_
      intro w4 H4
      refine ops_nil ?_
      refine ⟨fun hne => absurd rfl hne, ?_⟩
      refine nZ95 ?_
      refine mixz_nil ?_
      refine nR95 ?_
      refine run_seq ?_
      refine run_region ?_
      refine ops_val (ex_move rfl) ?_
      refine ops_val (ex_assign rfl) ?_
      refine ops_nil ?_
      refine nR95 ?_
      refine run_ret ?_
      refine fin_ret1 rfl rfl ?_
      have HZ := H4.pick [1] (by decide)
      change Hp _ _ _ [((some g2, 35, putAt (putAt _ (0 + i * 4) _) (0 + (i + 1) * 4) _) : Ent)] at HZ
      rw [Nat.zero_add, Nat.zero_add, ins_new (sp := sp2) hp rfl (by omega) hvl (by rw [initL_length]; rfl) rfl] at HZ
      refine ⟨some g2, cap2, sp2, by rw [hie], by omega, ?_, (fun h => by cases h), HZ⟩
      rw [List.length_append] at hcz2 ⊢
      rw [hrow2] at hcz2
      have hp2 : Pl 4 (ps.take i ++ vs :: ps.drop i) := (hp.sub fun x hx => List.mem_of_mem_take hx).app fun x hx => by
        rcases List.mem_cons.1 hx with rfl | hx
        · exact hvl
        · exact hp x (List.mem_of_mem_drop hx)
      rw [hp2.len]
      have : (ps.take i ++ vs :: ps.drop i).length = ps.length + 1 := by rw [List.length_append, List.length_cons, List.length_take, List.length_drop]; omega
      rw [this]; exact hcz2
    · skip
      refine ops_nil ?_
      refine nR95 ?_
      refine run_cond_false rfl ?_
      refine run_skip ?_
      refine run_seq ?_
      refine run_region ?_
      refine ops_val (ex_move rfl) ?_
      refine ops_val (ex_move rfl) ?_
      refine ops_val (ex_move rfl) ?_
      refine ops_val (ex_add rfl rfl (IntWalk.i64_in _ (by omega))) ?_
      refine nO95 ?_
      have hspl : 4 ≤ sp.length := by
        rw [List.length_append, hp.len] at hcz
        have : (ps.length + 1) * 4 ≤ cap * 4 := Nat.mul_le_mul_right _ (by omega)
        omega
      refine ops_val (ex_hi Tryz.underlying38 ty35 rfl rfl (i := ps.length + 1) (by omega) (by omega)) ?_
      refine ops_val (ex_assign rfl) ?_
      refine ops_nil ?_
      refine nR95 ?_
      refine run_seq ?_
      refine run_seq ?_
      refine run_region ?_
      refine ops_val (ex_move rfl) ?_
      refine ops_val (ex_move rfl) ?_
      refine ops_val (ex_move rfl) ?_
      refine ops_val (ex_move rfl) ?_
      refine nO95 ?_
      refine ops_val (ex_add rfl rfl (IntWalk.i64_in _ (by omega))) ?_
      refine ops_val (ex_lo Tryz.underlying38 ty35 rfl rfl (i := i + 1) (by omega) (by omega) (by omega)) ?_
      have hgvh := H.keep hv hgv
      have hgxh := H.at (i := 0) rfl
      have hne : gv ≠ gx := fun h => hgv (by rw [h]; simp [bl])
      refine ops_extern (fn := (Tryz.prog.funcs[187]?).get!) (e := Extern.SlicesOverlaps.overlaps #[38, 38] #[4]) (v := .bool false) (by kernel_rfl) (by kernel_rfl) (by kernel_rfl) (by kernel_rfl) (by kernel_rfl) rfl (Lib.run_overlaps_apart w0 38 4 35 Tryz.underlying38 4 (fun w => run_sizeOf ty35) ⟨gv, 0, none⟩ _ 1 1 _ _ (by rw [addn]; exact hne) 35 35 4 _ (by simp [World.shape?, hgvh]; exact hvl) (by rw [addn]; simp only [World.shape?, hgxh]; rfl) (by simp only [List.size_toArray, List.length_append]; omega) (by simp [World.frozen?, hgvh]) (by simp [World.frozen?, hgvh])) ?_
      refine ops_val (ex_not rfl) ?_
      refine ops_nil ?_
      refine nR95 ?_
      refine run_cond_true rfl ?_
      refine run_seq ?_
      refine run_mixZ 8 [(true, 0), (true, 1), (true, 2), (true, 3), (true, 4), (true, 5), (true, 6), (true, 7), (false, 8)] H [0] mixed (by decide) (by kernel_rfl) ?_
      rintro w1 hw1
      have H1 := Hp.drew H; rw [← hw1] at H1
      refine mixz_p rfl ?_
      refine mix1_val (fun wz hz => ex_move rfl) ?_
      refine mixz_p rfl ?_
      refine mix1_val (fun wz hz => ex_move rfl) ?_
      refine mixz_p rfl ?_
      refine mix1_val (fun wz hz => ex_move rfl) ?_
      refine mixz_p rfl ?_
      refine mix1_val (fun wz hz => ex_add rfl rfl (IntWalk.i64_in _ (by omega))) ?_
      refine nZ95 ?_
      refine mixz_p rfl ?_
      refine mix1_val (fun wz hz => ex_lo Tryz.underlying38 ty35 rfl rfl (i := i + 1) (by omega) (by omega) (by omega)) ?_
      refine mixz_p rfl ?_
      refine mix1_val (fun wz hz => ex_move rfl) ?_
      refine mixz_p rfl ?_
      refine mix1_val (fun wz hz => ex_move rfl) ?_
      refine mixz_p rfl ?_
      refine mix1_val (fun wz hz => ex_lo Tryz.underlying38 ty35 rfl rfl rfl (by omega) (by omega)) ?_
      refine nZ95 ?_
      refine mixz_o rfl ?_
      have hdl : (ps.flatten.drop (i * 4)).length = (ps.length - i) * 4 := by rw [List.length_drop, hp.len, ← Nat.sub_mul]
      have hlv : (i + 1) * 4 + (ps.length - i) * 4 = (ps.length + 1) * 4 := by rw [← Nat.add_mul, show i + 1 + (ps.length - i) = ps.length + 1 by omega]
      have hlw : (ps.length + 1) * 4 = ps.length * 4 + 4 := by omega
      refine ops_copyN Tryz.underlying38 ty35 H1 0 (o := 0 + (i + 1) * 4) (vs := ps.flatten.drop (i * 4)) (by first | rfl | (rw [← addn]; rfl)) rfl rfl (by rw [hdl]; show _ = Nat.min (ps.length + 1 - i) (ps.length + 1 - (i + 1)) * 4; rw [show Nat.min (ps.length + 1 - i) (ps.length + 1 - (i + 1)) = ps.length - i from (by show min _ _ = _; omega)]) (fun jx u hu => by
        rw [add_add, addn, Nat.zero_add]
        exact H1.cell (i := 0) rfl (by rw [List.getElem?_append_left (by have := lt_of_get hu; rw [List.length_drop] at this; omega)]; rwa [List.getElem?_drop] at hu)) (by rw [List.length_append, hp.len, hdl]; omega) (by rw [List.all_eq_true] at hones ⊢; exact fun x hx => hones x (List.mem_of_mem_drop hx)) ?_
      intro w2 H2
      refine ops_nil ?_
      refine ⟨fun hne => absurd rfl hne, ?_⟩
      refine nZ95 ?_
      refine mixz_nil ?_
      refine nR95 ?_
      refine run_seq ?_
      refine run_region ?_
      refine ops_val (ex_move rfl) ?_
      refine ops_val (ex_move rfl) ?_
      refine ops_val (ex_lo Tryz.underlying38 ty35 rfl rfl rfl (by omega) (by omega)) ?_
      refine ops_val (ex_move rfl) ?_
      refine nO95 ?_
      have hvr := (⟨by rw [hvl], fun a ha jx u hu => by cases ha; rw [addn, Nat.zero_add]; exact (by simp [World.cell?, H2.keep hv hgv, hu]), fun h => by cases h⟩ : Rd w2 (some ⟨gv, 0, none⟩) 1 4 vs)
      refine ops_copyN Tryz.underlying38 ty35 H2 0 (o := 0 + i * 4) (vs := vs) (by first | rfl | (rw [← addn]; rfl)) rfl rfl (by rw [hvl]; show 4 = Nat.min 1 (ps.length + 1 - i) * 4; rw [nminl]; omega) (fun jx u hu => hvr.cells _ rfl jx u hu) (by rw [putAt_len (by rw [List.length_append, hp.len, hdl]; omega), List.length_append, hp.len, hvl]; have : i * 4 ≤ ps.length * 4 := Nat.mul_le_mul_right _ (by omega); omega) hvo ?_
      intro w3 H3
      refine ops_nil ?_
      refine nR95 ?_
      refine run_seq ?_
      refine run_region ?_
      refine ops_val (ex_move rfl) ?_
      refine ops_val (ex_assign rfl) ?_
      refine ops_nil ?_
      refine nR95 ?_
      refine run_ret ?_
      refine fin_ret1 rfl rfl ?_
      have HZ := H3
      change Hp _ _ _ [((some gx, 35, putAt (putAt _ (0 + (i + 1) * 4) _) (0 + i * 4) _) : Ent)] at HZ
      rw [Nat.zero_add, Nat.zero_add, ins_in hp rfl (by omega) hvl hspl] at HZ
      have hp2 : Pl 4 (ps.take i ++ vs :: ps.drop i) := (hp.sub fun x hx => List.mem_of_mem_take hx).app fun x hx => by
        rcases List.mem_cons.1 hx with rfl | hx
        · exact hvl
        · exact hp x (List.mem_of_mem_drop hx)
      have hl3 : (ps.take i ++ vs :: ps.drop i).length = ps.length + 1 := by rw [List.length_append, List.length_cons, List.length_take, List.length_drop]; omega
      refine ⟨some gx, cap, sp.drop 4, rfl, by omega, ?_, (fun h => by cases h), HZ⟩
      rw [List.length_append, hp.len] at hcz
      rw [List.length_append, hp2.len, hl3, List.length_drop]
      omega
set_option maxRecDepth 100000 in
set_option maxHeartbeats 16000000 in
theorem insertM (g : Option Nat) (cap i gv n : Nat) (ps : List (List Value)) (hn : ps.length = n) (vs sp : List Value) (w0 : World) (H0 : Hp w0 w0 (bl [((g, 110, ps.flatten ++ sp) : Ent)]) [((g, 110, ps.flatten ++ sp) : Ent)]) (hp : Pl 7 ps) (ho : ∀ p ∈ ps, p.all (·.oneCell') = true) (hl : ps.length ≤ cap) (hcz : cap * 7 ≤ (ps.flatten ++ sp).length) (hg0 : g = none → cap = 0) (hi : i ≤ ps.length) (hv : w0.heap[gv]? = some (.cells vs.toArray 110 (0, 0))) (hvl : vs.length = 7) (hvo : vs.all (·.oneCell') = true) (hgv : gv ∉ bl [((g, 110, ps.flatten ++ sp) : Ent)]) (hb : (ps.length + 1) * 56 ≤ 211106232532992) :
    Does Tryz.prog 115 #[.slice (hd g) n cap, .int .i64 (i : Int), .slice (some ⟨gv, 0, none⟩) 1 1] w0 (fun r w' => ∃ g' cap' sp', r = .slice (hd g') (ps.length + 1) cap' ∧ ps.length + 1 ≤ cap' ∧ cap' * 7 ≤ ((ps.take i ++ vs :: ps.drop i).flatten ++ sp').length ∧ (g' = none → cap' = 0) ∧ Hp w0 w' (bl [((g, 110, ps.flatten ++ sp) : Ent)]) [((g', 110, (ps.take i ++ vs :: ps.drop i).flatten ++ sp') : Ent)]) := by
  refine does_of Tryz.func115 Tryz.ntmps115 rfl ?_
  refine nR95 ?_
  subst hn
  have H := H0
  have hrd := H.rd (i := 0) rfl hp.len (by decide)
  have hones := ones_flatten ho
  refine run_seq ?_
  refine run_region ?_
  refine ops_val (ex_assign rfl) ?_
  refine ops_nil ?_
  refine nR95 ?_
  refine run_seq ?_
  refine run_region ?_
  refine ops_val (ex_move rfl) ?_
  refine ops_val (ex_move rfl) ?_
  refine ops_val (ex_cutLo Tryz.underlying39 ty110 rfl rfl ⟨by omega, by omega⟩) ?_
  refine ops_nil ?_
  refine nR95 ?_
  refine run_seq ?_
  refine run_region ?_
  refine ops_val (ex_move rfl) ?_
  refine ops_val (ex_len_slice Tryz.underlying39 rfl) ?_
  refine ops_val (ex_assign rfl) ?_
  refine ops_nil ?_
  refine nR95 ?_
  refine run_seq ?_
  refine run_seq ?_
  refine run_region ?_
  refine ops_val (ex_move rfl) ?_
  refine ops_false (ex_eql rfl rfl) (by decide) ?_
  refine ops_nil ?_
  refine nR95 ?_
  refine run_cond_false rfl ?_
  refine run_skip ?_
  refine run_seq ?_
  refine run_region ?_
  refine ops_val (ex_move rfl) ?_
  refine ops_val (ex_len_slice Tryz.underlying39 rfl) ?_
  refine ops_val (ex_assign rfl) ?_
  refine ops_nil ?_
  refine nR95 ?_
  refine run_seq ?_
  refine run_seq ?_
  refine run_region ?_
  refine ops_val (ex_move rfl) ?_
  refine ops_val (ex_move rfl) ?_
  refine ops_test (ex_eql rfl rfl) (fun hp22 => ?_) (fun hp22 => ?_)
  · obtain rfl : i = ps.length := by omega
    refine ops_nil ?_
    refine nR95 ?_
    refine run_cond_true rfl ?_
    refine run_seq ?_
    refine run_region ?_
    refine ops_val (ex_move rfl) ?_
    refine ops_val (ex_move rfl) ?_
    have hvr := (⟨by rw [hvl], fun a ha jx u hu => by cases ha; rw [addn, Nat.zero_add]; exact (by simp [World.cell?, H.keep hv hgv, hu]), fun h => by cases h⟩ : Rd w0 (some ⟨gv, 0, none⟩) 1 7 vs)
    refine ops_append Tryz.underlying39 ty110 (by decide) H 0 (g := g) (xs := ps.flatten) (sp := sp) rfl rfl hp.len hcz hl hg0 rfl hvr hvo (by omega) (by omega) (by decide) ?_
    intro w1 g2 cap2 sp2 H1 hcz2 hl2 hg2
    refine ops_val (ex_assign rfl) ?_
    refine ops_nil ?_
    refine nR95 ?_
    refine run_ret ?_
    refine fin_ret1 rfl rfl ?_
    have e1 : (ps.take ps.length ++ vs :: ps.drop ps.length).flatten = ps.flatten ++ vs := by rw [List.take_length, List.drop_length]; simp
    refine ⟨g2, cap2, sp2, rfl, hl2, by rw [e1]; exact hcz2, hg2, ?_⟩
    rw [e1]
    exact H1
  · have hil : i < ps.length := by omega
    obtain ⟨gx, rfl⟩ := own_some H (i := 0) rfl (by rw [List.length_append, hp.len]; have : 0 < ps.length * 7 := Nat.mul_pos (by omega) (by decide); omega)
    refine ops_nil ?_
    refine nR95 ?_
    refine run_cond_false rfl ?_
    refine run_skip ?_
    refine run_seq ?_
    refine run_seq ?_
    refine run_region ?_
    refine ops_val (ex_move rfl) ?_
    refine ops_val (ex_move rfl) ?_
    refine ops_val (ex_add rfl rfl (IntWalk.i64_in _ (by omega))) ?_
    refine ops_val (ex_move rfl) ?_
    refine nO95 ?_
    refine ops_val (ex_cap_slice Tryz.underlying39 rfl) ?_
    refine ops_test (ex_gtr rfl rfl) (fun hp31 => ?_) (fun hp31 => ?_)
    · skip
      refine ops_nil ?_
      refine nR95 ?_
      refine run_cond_true rfl ?_
      refine run_seq ?_
      refine run_region ?_
      refine ops_val (ex_move rfl) ?_
      refine ops_val (ex_move rfl) ?_
      refine ops_val (ex_hi Tryz.underlying39 ty110 rfl rfl rfl (by omega)) ?_
      refine ops_val (ex_move rfl) ?_
      refine nO95 ?_
      refine ops_val (ex_move rfl) ?_
      refine ops_val (ex_add rfl rfl (IntWalk.i64_in _ (by omega))) ?_
      refine ops_val (ex_move rfl) ?_
      refine ops_val (ex_sub rfl rfl ((IntWalk.i64_in _ (by omega)).trans (show ((ps.length : Int) + 1 - (i : Int)) = ((ps.length + 1 - i : Nat) : Int) by omega))) ?_
      refine nO95 ?_
      refine ops_append0 Tryz.underlying39 Tryz.underlying3 ty110 (by decide) H rfl (hrd.headN (by omega) (fun h => by cases h)) rfl (by omega) (by omega) (by omega) (by omega) (by decide) ?_
      intro w1 g2 cap2 sp2 H1 hcz2 hl2
      refine ops_val (ex_assign rfl) ?_
      refine ops_nil ?_
      refine nR95 ?_
      refine run_seq ?_
      refine run_region ?_
      refine ops_val (ex_move rfl) ?_
      refine ops_val (ex_move rfl) ?_
      have hie : i + (ps.length + 1 - i) = ps.length + 1 := by omega
      have hrow2 : (ps.flatten.take (i * 7) ++ initL [.int .i64 0, .int .i64 0, .bool false, .int .i64 0, .int .i64 0, .int .i64 0, .int .i64 0] (ps.length + 1 - i)).length = (ps.length + 1) * 7 := by
        rw [List.length_append, List.length_take, hp.len, initL_length, Nat.min_eq_left (Nat.mul_le_mul_right _ (by omega))]
        show i * 7 + (ps.length + 1 - i) * 7 = _
        rw [← Nat.add_mul, hie]
      have hlv : (i + 1) * 7 ≤ (ps.length + 1) * 7 := Nat.mul_le_mul_right _ (by omega)
      have hvr := (⟨by rw [hvl], fun a ha jx u hu => by cases ha; rw [addn, Nat.zero_add]; exact (by simp [World.cell?, H1.keep hv hgv, hu]), fun h => by cases h⟩ : Rd w1 (some ⟨gv, 0, none⟩) 1 7 vs)
      refine ops_val (ex_lo Tryz.underlying39 ty110 rfl rfl rfl (by omega) (by omega)) ?_
      refine ops_val (ex_move rfl) ?_
      refine nO95 ?_
      refine ops_copyN Tryz.underlying39 ty110 H1 1 (o := 0 + i * 7) (vs := vs) (by first | rfl | (rw [← addn]; rfl)) rfl rfl (by rw [hvl]; show 7 = Nat.min 1 (i + (ps.length + 1 - i) - i) * 7; rw [nminl]; omega) (fun jx u hu => hvr.cells _ rfl jx u hu) (by rw [List.length_append, hrow2, hvl]; omega) hvo ?_
      intro w2 H2
      refine ops_nil ?_
      refine nR95 ?_
      refine run_seq ?_
      refine run_mixZ 8 [(true, 0), (true, 1), (true, 2), (true, 3), (true, 4), (true, 5), (true, 6), (true, 7), (false, 8)] H2 [0, 1] mixed (by decide) (by kernel_rfl) ?_
      rintro w3 hw3
      have H3 := Hp.drew H2; rw [← hw3] at H3
      refine mixz_p rfl ?_
      refine mix1_val (fun wz hz => ex_move rfl) ?_
      refine mixz_p rfl ?_
      refine mix1_val (fun wz hz => ex_move rfl) ?_
      refine mixz_p rfl ?_
      refine mix1_val (fun wz hz => ex_move rfl) ?_
      refine mixz_p rfl ?_
      refine mix1_val (fun wz hz => ex_add rfl rfl (IntWalk.i64_in _ (by omega))) ?_
      refine nZ95 ?_
      refine mixz_p rfl ?_
      refine mix1_val (fun wz hz => ex_lo Tryz.underlying39 ty110 rfl rfl (i := i + 1) (by omega) (by omega) (by omega)) ?_
      refine mixz_p rfl ?_
      refine mix1_val (fun wz hz => ex_move rfl) ?_
      refine mixz_p rfl ?_
      refine mix1_val (fun wz hz => ex_move rfl) ?_
      refine mixz_p rfl ?_
      refine mix1_val (fun wz hz => ex_lo Tryz.underlying39 ty110 rfl rfl rfl (by omega) (by omega)) ?_
      refine nZ95 ?_
      refine mixz_o rfl ?_
      have hdl : (ps.flatten.drop (i * 7)).length = (ps.length - i) * 7 := by rw [List.length_drop, hp.len, ← Nat.sub_mul]
      refine ops_copyN Tryz.underlying39 ty110 H3 1 (o := 0 + (i + 1) * 7) (vs := ps.flatten.drop (i * 7)) (by first | rfl | (rw [← addn]; rfl)) rfl rfl (by rw [hdl]; show _ = Nat.min (ps.length - i) (i + (ps.length + 1 - i) - (i + 1)) * 7; rw [nminl]; omega) (fun jx u hu => by
        rw [add_add, addn, Nat.zero_add]
        exact H3.cell (i := 0) rfl (by rw [List.getElem?_append_left (by have := lt_of_get hu; rw [List.length_drop] at this; omega)]; rwa [List.getElem?_drop] at hu)) (by rw [putAt_len (by rw [List.length_append, hrow2, hvl]; omega), List.length_append, hrow2, hdl, Nat.zero_add, ← Nat.add_mul, show i + 1 + (ps.length - i) = ps.length + 1 by omega]; omega) (by rw [List.all_eq_true] at hones ⊢; exact fun x hx => hones x (List.mem_of_mem_drop hx)) ?_
      intro w4 H4
      refine ops_nil ?_
      refine ⟨fun hne => absurd rfl hne, ?_⟩
      refine nZ95 ?_
      refine mixz_nil ?_
      refine nR95 ?_
      refine run_seq ?_
      refine run_region ?_
      refine ops_val (ex_move rfl) ?_
      refine ops_val (ex_assign rfl) ?_
      refine ops_nil ?_
      refine nR95 ?_
      refine run_ret ?_
      refine fin_ret1 rfl rfl ?_
      have HZ := H4.pick [1] (by decide)
      change Hp _ _ _ [((some g2, 110, putAt (putAt _ (0 + i * 7) _) (0 + (i + 1) * 7) _) : Ent)] at HZ
      rw [Nat.zero_add, Nat.zero_add, ins_new (sp := sp2) hp rfl (by omega) hvl (by rw [initL_length]; rfl) rfl] at HZ
      refine ⟨some g2, cap2, sp2, by rw [hie], by omega, ?_, (fun h => by cases h), HZ⟩
      rw [List.length_append] at hcz2 ⊢
      rw [hrow2] at hcz2
      have hp2 : Pl 7 (ps.take i ++ vs :: ps.drop i) := (hp.sub fun x hx => List.mem_of_mem_take hx).app fun x hx => by
        rcases List.mem_cons.1 hx with rfl | hx
        · exact hvl
        · exact hp x (List.mem_of_mem_drop hx)
      rw [hp2.len]
      have : (ps.take i ++ vs :: ps.drop i).length = ps.length + 1 := by rw [List.length_append, List.length_cons, List.length_take, List.length_drop]; omega
      rw [this]; exact hcz2
    · skip
      refine ops_nil ?_
      refine nR95 ?_
      refine run_cond_false rfl ?_
      refine run_skip ?_
      refine run_seq ?_
      refine run_region ?_
      refine ops_val (ex_move rfl) ?_
      refine ops_val (ex_move rfl) ?_
      refine ops_val (ex_move rfl) ?_
      refine ops_val (ex_add rfl rfl (IntWalk.i64_in _ (by omega))) ?_
      refine nO95 ?_
      have hspl : 7 ≤ sp.length := by
        rw [List.length_append, hp.len] at hcz
        have : (ps.length + 1) * 7 ≤ cap * 7 := Nat.mul_le_mul_right _ (by omega)
        omega
      refine ops_val (ex_hi Tryz.underlying39 ty110 rfl rfl (i := ps.length + 1) (by omega) (by omega)) ?_
      refine ops_val (ex_assign rfl) ?_
      refine ops_nil ?_
      refine nR95 ?_
      refine run_seq ?_
      refine run_seq ?_
      refine run_region ?_
      refine ops_val (ex_move rfl) ?_
      refine ops_val (ex_move rfl) ?_
      refine ops_val (ex_move rfl) ?_
      refine ops_val (ex_move rfl) ?_
      refine nO95 ?_
      refine ops_val (ex_add rfl rfl (IntWalk.i64_in _ (by omega))) ?_
      refine ops_val (ex_lo Tryz.underlying39 ty110 rfl rfl (i := i + 1) (by omega) (by omega) (by omega)) ?_
      have hgvh := H.keep hv hgv
      have hgxh := H.at (i := 0) rfl
      have hne : gv ≠ gx := fun h => hgv (by rw [h]; simp [bl])
      refine ops_extern (fn := (Tryz.prog.funcs[160]?).get!) (e := Extern.SlicesOverlaps.overlaps #[39, 39] #[4]) (v := .bool false) (by kernel_rfl) (by kernel_rfl) (by kernel_rfl) (by kernel_rfl) (by kernel_rfl) rfl (Lib.run_overlaps_apart w0 39 4 110 Tryz.underlying39 7 (fun w => run_sizeOf ty110) ⟨gv, 0, none⟩ _ 1 1 _ _ (by rw [addn]; exact hne) 110 110 7 _ (by simp [World.shape?, hgvh]; exact hvl) (by rw [addn]; simp only [World.shape?, hgxh]; rfl) (by simp only [List.size_toArray, List.length_append]; omega) (by simp [World.frozen?, hgvh]) (by simp [World.frozen?, hgvh])) ?_
      refine ops_val (ex_not rfl) ?_
      refine ops_nil ?_
      refine nR95 ?_
      refine run_cond_true rfl ?_
      refine run_seq ?_
      refine run_mixZ 8 [(true, 0), (true, 1), (true, 2), (true, 3), (true, 4), (true, 5), (true, 6), (true, 7), (false, 8)] H [0] mixed (by decide) (by kernel_rfl) ?_
      rintro w1 hw1
      have H1 := Hp.drew H; rw [← hw1] at H1
      refine mixz_p rfl ?_
      refine mix1_val (fun wz hz => ex_move rfl) ?_
      refine mixz_p rfl ?_
      refine mix1_val (fun wz hz => ex_move rfl) ?_
      refine mixz_p rfl ?_
      refine mix1_val (fun wz hz => ex_move rfl) ?_
      refine mixz_p rfl ?_
      refine mix1_val (fun wz hz => ex_add rfl rfl (IntWalk.i64_in _ (by omega))) ?_
      refine nZ95 ?_
      refine mixz_p rfl ?_
      refine mix1_val (fun wz hz => ex_lo Tryz.underlying39 ty110 rfl rfl (i := i + 1) (by omega) (by omega) (by omega)) ?_
      refine mixz_p rfl ?_
      refine mix1_val (fun wz hz => ex_move rfl) ?_
      refine mixz_p rfl ?_
      refine mix1_val (fun wz hz => ex_move rfl) ?_
      refine mixz_p rfl ?_
      refine mix1_val (fun wz hz => ex_lo Tryz.underlying39 ty110 rfl rfl rfl (by omega) (by omega)) ?_
      refine nZ95 ?_
      refine mixz_o rfl ?_
      have hdl : (ps.flatten.drop (i * 7)).length = (ps.length - i) * 7 := by rw [List.length_drop, hp.len, ← Nat.sub_mul]
      have hlv : (i + 1) * 7 + (ps.length - i) * 7 = (ps.length + 1) * 7 := by rw [← Nat.add_mul, show i + 1 + (ps.length - i) = ps.length + 1 by omega]
      have hlw : (ps.length + 1) * 7 = ps.length * 7 + 7 := by omega
      refine ops_copyN Tryz.underlying39 ty110 H1 0 (o := 0 + (i + 1) * 7) (vs := ps.flatten.drop (i * 7)) (by first | rfl | (rw [← addn]; rfl)) rfl rfl (by rw [hdl]; show _ = Nat.min (ps.length + 1 - i) (ps.length + 1 - (i + 1)) * 7; rw [show Nat.min (ps.length + 1 - i) (ps.length + 1 - (i + 1)) = ps.length - i from (by show min _ _ = _; omega)]) (fun jx u hu => by
        rw [add_add, addn, Nat.zero_add]
        exact H1.cell (i := 0) rfl (by rw [List.getElem?_append_left (by have := lt_of_get hu; rw [List.length_drop] at this; omega)]; rwa [List.getElem?_drop] at hu)) (by rw [List.length_append, hp.len, hdl]; omega) (by rw [List.all_eq_true] at hones ⊢; exact fun x hx => hones x (List.mem_of_mem_drop hx)) ?_
      intro w2 H2
      refine ops_nil ?_
      refine ⟨fun hne => absurd rfl hne, ?_⟩
      refine nZ95 ?_
      refine mixz_nil ?_
      refine nR95 ?_
      refine run_seq ?_
      refine run_region ?_
      refine ops_val (ex_move rfl) ?_
      refine ops_val (ex_move rfl) ?_
      refine ops_val (ex_lo Tryz.underlying39 ty110 rfl rfl rfl (by omega) (by omega)) ?_
      refine ops_val (ex_move rfl) ?_
      refine nO95 ?_
      have hvr := (⟨by rw [hvl], fun a ha jx u hu => by cases ha; rw [addn, Nat.zero_add]; exact (by simp [World.cell?, H2.keep hv hgv, hu]), fun h => by cases h⟩ : Rd w2 (some ⟨gv, 0, none⟩) 1 7 vs)
      refine ops_copyN Tryz.underlying39 ty110 H2 0 (o := 0 + i * 7) (vs := vs) (by first | rfl | (rw [← addn]; rfl)) rfl rfl (by rw [hvl]; show 7 = Nat.min 1 (ps.length + 1 - i) * 7; rw [nminl]; omega) (fun jx u hu => hvr.cells _ rfl jx u hu) (by rw [putAt_len (by rw [List.length_append, hp.len, hdl]; omega), List.length_append, hp.len, hvl]; have : i * 7 ≤ ps.length * 7 := Nat.mul_le_mul_right _ (by omega); omega) hvo ?_
      intro w3 H3
      refine ops_nil ?_
      refine nR95 ?_
      refine run_seq ?_
      refine run_region ?_
      refine ops_val (ex_move rfl) ?_
      refine ops_val (ex_assign rfl) ?_
      refine ops_nil ?_
      refine nR95 ?_
      refine run_ret ?_
      refine fin_ret1 rfl rfl ?_
      have HZ := H3
      change Hp _ _ _ [((some gx, 110, putAt (putAt _ (0 + (i + 1) * 7) _) (0 + i * 7) _) : Ent)] at HZ
      rw [Nat.zero_add, Nat.zero_add, ins_in hp rfl (by omega) hvl hspl] at HZ
      have hp2 : Pl 7 (ps.take i ++ vs :: ps.drop i) := (hp.sub fun x hx => List.mem_of_mem_take hx).app fun x hx => by
        rcases List.mem_cons.1 hx with rfl | hx
        · exact hvl
        · exact hp x (List.mem_of_mem_drop hx)
      have hl3 : (ps.take i ++ vs :: ps.drop i).length = ps.length + 1 := by rw [List.length_append, List.length_cons, List.length_take, List.length_drop]; omega
      refine ⟨some gx, cap, sp.drop 7, rfl, by omega, ?_, (fun h => by cases h), HZ⟩
      rw [List.length_append, hp.len] at hcz
      rw [List.length_append, hp2.len, hl3, List.length_drop]
      omega
end Go.Proofs.YtjoeklkmnfaabaaGreat
/- Walks of layer 2, printed by wip/gen/codec.py. -/
namespace Go.Proofs.YtjoeklkmnfaabaaGreat
open Go Go.RowKit
set_option linter.unusedVariables false
attribute [local irreducible] Still Ops Does Cd
set_option maxRecDepth 100000 in
set_option maxHeartbeats 4000000 in
theorem voteC (s n : Int) (c1 c2 c3 : Value) (w0 : World) :
    Does Tryz.prog 165 #[.agg [.int .i64 s, c1, c2, c3].toArray, .int .i64 n] w0 (fun r w' => r = .int .i64 (cmpI s n) ∧ Hp w0 w' [] []) := by
  refine does_of Tryz.func165 Tryz.ntmps165 rfl ?_
  refine nR15 ?_
  have H := Hp.refl w0
  refine run_seq ?_
  refine run_region ?_
  refine ops_box rfl rfl H ?_
  intro w1 g1 H1 hg1
  refine ops_val (ex_assign rfl) ?_
  refine ops_nil ?_
  refine nR15 ?_
  refine run_seq ?_
  refine run_block ?_
  refine run_seq ?_
  refine run_region ?_
  refine ops_val (ex_fieldAddr fl77_0 rfl) ?_
  refine ops_val (ex_load ty3 rfl (H1.cell (i := 0) rfl rfl)) ?_
  refine ops_val (ex_move rfl) ?_
  refine ops_test (ex_lss rfl rfl) (fun hp9 => ?_) (fun hp9 => ?_)
  · skip
    refine ops_val (ex_assign rfl) ?_
    refine ops_nil ?_
    refine nR15 ?_
    refine run_cond_true rfl ?_
    refine run_seq ?_
    refine run_region ?_
    refine ops_val (ex_assign rfl) ?_
    refine ops_nil ?_
    refine nR15 ?_
    refine run_ret ?_
    refine blk_ret ?_
    refine fin_ret1 rfl rfl ?_
    exact ⟨by unfold cmpI; rw [if_pos (by omega)], H1.noRows⟩
  · skip
    refine ops_val (ex_assign rfl) ?_
    refine ops_nil ?_
    refine nR15 ?_
    refine run_cond_false rfl ?_
    refine run_seq ?_
    refine run_region ?_
    refine ops_val (ex_fieldAddr fl77_0 rfl) ?_
    refine ops_val (ex_load ty3 rfl (H1.cell (i := 0) rfl rfl)) ?_
    refine ops_val (ex_move rfl) ?_
    refine ops_test (ex_gtr rfl rfl) (fun hp14 => ?_) (fun hp14 => ?_)
    · skip
      refine ops_val (ex_assign rfl) ?_
      refine ops_nil ?_
      refine nR15 ?_
      refine run_cond_true rfl ?_
      refine run_seq ?_
      refine run_region ?_
      refine ops_val (ex_assign rfl) ?_
      refine ops_nil ?_
      refine nR15 ?_
      refine run_ret ?_
      refine blk_ret ?_
      refine fin_ret1 rfl rfl ?_
      exact ⟨by unfold cmpI; rw [if_neg (by omega), if_pos (by omega)], H1.noRows⟩
    · skip
      refine ops_val (ex_assign rfl) ?_
      refine ops_nil ?_
      refine nR15 ?_
      refine run_cond_false rfl ?_
      refine run_skip ?_
      refine run_nil (blk_normal ?_)
      refine run_seq ?_
      refine run_region ?_
      refine ops_val (ex_assign rfl) ?_
      refine ops_nil ?_
      refine nR15 ?_
      refine run_ret ?_
      refine fin_ret1 rfl rfl ?_
      exact ⟨by unfold cmpI; rw [if_neg (by omega), if_neg (by omega)], H1.noRows⟩
set_option maxRecDepth 100000 in
set_option maxHeartbeats 4000000 in
theorem placeC (s n : Int) (c1 c2 c3 c4 c5 c6 : Value) (w0 : World) :
    Does Tryz.prog 190 #[.agg [.int .i64 s, c1, c2, c3, c4, c5, c6].toArray, .int .i64 n] w0 (fun r w' => r = .int .i64 (cmpI s n) ∧ Hp w0 w' [] []) := by
  refine does_of Tryz.func190 Tryz.ntmps190 rfl ?_
  refine nR15 ?_
  have H := Hp.refl w0
  refine run_seq ?_
  refine run_region ?_
  refine ops_box rfl rfl H ?_
  intro w1 g1 H1 hg1
  refine ops_val (ex_assign rfl) ?_
  refine ops_nil ?_
  refine nR15 ?_
  refine run_seq ?_
  refine run_block ?_
  refine run_seq ?_
  refine run_region ?_
  refine ops_val (ex_fieldAddr fl110_0 rfl) ?_
  refine ops_val (ex_load ty3 rfl (H1.cell (i := 0) rfl rfl)) ?_
  refine ops_val (ex_move rfl) ?_
  refine ops_test (ex_lss rfl rfl) (fun hp9 => ?_) (fun hp9 => ?_)
  · skip
    refine ops_val (ex_assign rfl) ?_
    refine ops_nil ?_
    refine nR15 ?_
    refine run_cond_true rfl ?_
    refine run_seq ?_
    refine run_region ?_
    refine ops_val (ex_assign rfl) ?_
    refine ops_nil ?_
    refine nR15 ?_
    refine run_ret ?_
    refine blk_ret ?_
    refine fin_ret1 rfl rfl ?_
    exact ⟨by unfold cmpI; rw [if_pos (by omega)], H1.noRows⟩
  · skip
    refine ops_val (ex_assign rfl) ?_
    refine ops_nil ?_
    refine nR15 ?_
    refine run_cond_false rfl ?_
    refine run_seq ?_
    refine run_region ?_
    refine ops_val (ex_fieldAddr fl110_0 rfl) ?_
    refine ops_val (ex_load ty3 rfl (H1.cell (i := 0) rfl rfl)) ?_
    refine ops_val (ex_move rfl) ?_
    refine ops_test (ex_gtr rfl rfl) (fun hp14 => ?_) (fun hp14 => ?_)
    · skip
      refine ops_val (ex_assign rfl) ?_
      refine ops_nil ?_
      refine nR15 ?_
      refine run_cond_true rfl ?_
      refine run_seq ?_
      refine run_region ?_
      refine ops_val (ex_assign rfl) ?_
      refine ops_nil ?_
      refine nR15 ?_
      refine run_ret ?_
      refine blk_ret ?_
      refine fin_ret1 rfl rfl ?_
      exact ⟨by unfold cmpI; rw [if_neg (by omega), if_pos (by omega)], H1.noRows⟩
    · skip
      refine ops_val (ex_assign rfl) ?_
      refine ops_nil ?_
      refine nR15 ?_
      refine run_cond_false rfl ?_
      refine run_skip ?_
      refine run_nil (blk_normal ?_)
      refine run_seq ?_
      refine run_region ?_
      refine ops_val (ex_assign rfl) ?_
      refine ops_nil ?_
      refine nR15 ?_
      refine run_ret ?_
      refine fin_ret1 rfl rfl ?_
      exact ⟨by unfold cmpI; rw [if_neg (by omega), if_neg (by omega)], H1.noRows⟩
set_option maxRecDepth 100000 in
set_option maxHeartbeats 4000000 in
theorem behindC (s n : Int) (c1 c2 c3 : Value) (w0 : World) (gc : Nat) (gcs : List Value) (Tc : TypeId) (hgc : w0.heap[gc]? = some (.cells gcs.toArray Tc (0, 0))) (hv : gcs[0]? = some (.int .i64 n)) :
    Does Tryz.prog 195 #[.agg [.int .i64 s, c1, c2, c3].toArray, .pointer (some ⟨gc, 0, none⟩)] w0 (fun r w' => r = .bool (decide (s ≤ n)) ∧ Hp w0 w' [] []) := by
  refine does_of Tryz.func195 Tryz.ntmps195 rfl ?_
  change Run _ _ _ _ [.agg [.int .i64 s, c1, c2, c3].toArray, .pointer (some ⟨gc, 0, none⟩), undef, undef, undef, undef, undef, undef] _
  have H := Hp.refl w0
  refine run_seq ?_
  refine run_region ?_
  refine ops_box rfl rfl H ?_
  intro w1 g1 H1 hg1
  refine ops_val (ex_assign rfl) ?_
  refine ops_nil ?_
  change Run _ _ _ _ [_, _, _, _, _, _, _, _] _
  refine run_seq ?_
  refine run_region ?_
  refine ops_val (ex_fieldAddr fl77_0 rfl) ?_
  refine ops_val (ex_load ty3 rfl (H1.cell (i := 0) rfl rfl)) ?_
  refine ops_val (ex_load ty3 rfl (cell_at (H1.keep hgc (by simp)) hv)) ?_
  refine ops_test (ex_leq rfl rfl) (fun hp7 => ?_) (fun hp7 => ?_)
  · skip
    refine ops_val (ex_assign rfl) ?_
    refine ops_nil ?_
    change Run _ _ _ _ [_, _, _, _, _, _, _, _] _
    refine run_ret ?_
    refine fin_ret1 rfl rfl ?_
    exact ⟨bt (by omega), H1.noRows⟩
  · skip
    refine ops_val (ex_assign rfl) ?_
    refine ops_nil ?_
    change Run _ _ _ _ [_, _, _, _, _, _, _, _] _
    refine run_ret ?_
    refine fin_ret1 rfl rfl ?_
    exact ⟨bf (by omega), H1.noRows⟩
set_option maxRecDepth 100000 in
set_option maxHeartbeats 4000000 in
theorem imageC (s n : Int) (c1 : Value) (w0 : World) (gc : Nat) (gcs : List Value) (Tc : TypeId) (hgc : w0.heap[gc]? = some (.cells gcs.toArray Tc (0, 0))) (hv : gcs[0]? = some (.int .i64 n)) :
    Does Tryz.prog 169 #[.agg [.int .i64 s, c1].toArray, .pointer (some ⟨gc, 0, none⟩)] w0 (fun r w' => r = .bool (decide (s ≤ n)) ∧ Hp w0 w' [] []) := by
  refine does_of Tryz.func169 Tryz.ntmps169 rfl ?_
  change Run _ _ _ _ [.agg [.int .i64 s, c1].toArray, .pointer (some ⟨gc, 0, none⟩), undef, undef, undef, undef, undef, undef, undef] _
  have H := Hp.refl w0
  refine run_seq ?_
  refine run_region ?_
  refine ops_box rfl rfl H ?_
  intro w1 g1 H1 hg1
  refine ops_val (ex_assign rfl) ?_
  refine ops_nil ?_
  change Run _ _ _ _ [_, _, _, _, _, _, _, _, _] _
  refine run_seq ?_
  refine run_region ?_
  refine ops_val (ex_fieldAddr fl79_0 rfl) ?_
  refine ops_val (ex_load ty3 rfl (H1.cell (i := 0) rfl rfl)) ?_
  refine ops_val (ex_fieldAddr fl79_0 rfl) ?_
  refine ops_val (ex_load ty3 rfl (cell_at (H1.keep hgc (by simp)) hv)) ?_
  change Ops _ _ _ _ _ _ [_, _, _, _, _, _, _, _, _] _
  refine ops_test (ex_leq rfl rfl) (fun hp8 => ?_) (fun hp8 => ?_)
  · skip
    refine ops_val (ex_assign rfl) ?_
    refine ops_nil ?_
    change Run _ _ _ _ [_, _, _, _, _, _, _, _, _] _
    refine run_ret ?_
    refine fin_ret1 rfl rfl ?_
    exact ⟨bt (by omega), H1.noRows⟩
  · skip
    refine ops_val (ex_assign rfl) ?_
    refine ops_nil ?_
    change Run _ _ _ _ [_, _, _, _, _, _, _, _, _] _
    refine run_ret ?_
    refine fin_ret1 rfl rfl ?_
    exact ⟨bf (by omega), H1.noRows⟩
set_option maxRecDepth 100000 in
set_option maxHeartbeats 4000000 in
theorem spentC (s n : Int) (c1 c2 c3 c4 c5 c6 : Value) (w0 : World) (gc : Nat) (gcs : List Value) (Tc : TypeId) (hgc : w0.heap[gc]? = some (.cells gcs.toArray Tc (0, 0))) (hv : gcs[14]? = some (.int .i64 n)) :
    Does Tryz.prog 114 #[.agg [.int .i64 s, c1, c2, c3, c4, c5, c6].toArray, .pointer (some ⟨gc, 0, none⟩)] w0 (fun r w' => r = .bool (decide (s = n)) ∧ Hp w0 w' [] []) := by
  refine does_of Tryz.func114 Tryz.ntmps114 rfl ?_
  change Run _ _ _ _ [.agg [.int .i64 s, c1, c2, c3, c4, c5, c6].toArray, .pointer (some ⟨gc, 0, none⟩), undef, undef, undef, undef, undef, undef, undef] _
  have H := Hp.refl w0
  refine run_seq ?_
  refine run_region ?_
  refine ops_box rfl rfl H ?_
  intro w1 g1 H1 hg1
  refine ops_val (ex_assign rfl) ?_
  refine ops_nil ?_
  change Run _ _ _ _ [_, _, _, _, _, _, _, _, _] _
  refine run_seq ?_
  refine run_region ?_
  refine ops_val (ex_fieldAddr fl110_0 rfl) ?_
  refine ops_val (ex_load ty3 rfl (H1.cell (i := 0) rfl rfl)) ?_
  refine ops_val (ex_fieldAddr fl81_6 rfl) ?_
  refine ops_val (ex_load ty3 rfl (cell_at (H1.keep hgc (by simp)) hv)) ?_
  change Ops _ _ _ _ _ _ [_, _, _, _, _, _, _, _, _] _
  refine ops_test (ex_eql rfl rfl) (fun hp8 => ?_) (fun hp8 => ?_)
  · skip
    refine ops_val (ex_assign rfl) ?_
    refine ops_nil ?_
    change Run _ _ _ _ [_, _, _, _, _, _, _, _, _] _
    refine run_ret ?_
    refine fin_ret1 rfl rfl ?_
    exact ⟨bt (by omega), H1.noRows⟩
  · skip
    refine ops_val (ex_assign rfl) ?_
    refine ops_nil ?_
    change Run _ _ _ _ [_, _, _, _, _, _, _, _, _] _
    refine run_ret ?_
    refine fin_ret1 rfl rfl ?_
    exact ⟨bf (by omega), H1.noRows⟩
set_option maxRecDepth 100000 in
set_option maxHeartbeats 4000000 in
theorem cmpstr (a b : Blk) (w0 : World) :
    Does Tryz.prog 209 #[strV a, strV b] w0 (fun r w' => r = .int .i64 (Lib.compareBytes a b) ∧ Hp w0 w' [] []) := by
  refine does_of Tryz.func209 Tryz.ntmps209 rfl ?_
  change Run _ _ _ _ [strV a, strV b, undef, undef, undef, undef, undef, undef] _
  have H := Hp.refl w0
  refine run_seq ?_
  refine run_region ?_
  refine ops_val (ex_assign rfl) ?_
  refine ops_nil ?_
  change Run _ _ _ _ [_, _, _, _, _, _, _, _] _
  refine run_seq ?_
  refine run_region ?_
  refine ops_val (ex_move rfl) ?_
  refine ops_val (ex_move rfl) ?_
  refine ops_extern (fn := (Tryz.prog.funcs[218]?).get!) (e := Extern.BytealgCompare.compare) (v := .int .i64 (Lib.compareBytes a b)) (by kernel_rfl) (by kernel_rfl) (by kernel_rfl) (by kernel_rfl) (by kernel_rfl) rfl (Lib.run_compareString ⟨a.toArray⟩ ⟨b.toArray⟩ _) ?_
  refine ops_val (ex_assign rfl) ?_
  refine ops_nil ?_
  change Run _ _ _ _ [_, _, _, _, _, _, _, _] _
  refine run_ret ?_
  refine fin_ret1 rfl rfl ?_
  exact ⟨rfl, H⟩
set_option maxRecDepth 100000 in
set_option maxHeartbeats 4000000 in
theorem strcmp (a b : Blk) (w0 : World) :
    Does Tryz.prog 186 #[strV a, strV b] w0 (fun r w' => r = .int .i64 (Lib.compareBytes a b) ∧ Hp w0 w' [] []) := by
  refine does_of Tryz.func186 Tryz.ntmps186 rfl ?_
  change Run _ _ _ _ [strV a, strV b, undef, undef, undef, undef, undef, undef] _
  have H := Hp.refl w0
  refine run_seq ?_
  refine run_region ?_
  refine ops_val (ex_assign rfl) ?_
  refine ops_nil ?_
  change Run _ _ _ _ [_, _, _, _, _, _, _, _] _
  refine run_seq ?_
  refine run_region ?_
  refine ops_val (ex_move rfl) ?_
  refine ops_val (ex_move rfl) ?_
  refine ops_call_val (ex_call gf209 rfl) (cmpstr _ _ _) ?_
  intro w1 Hd
  have H1 := H.callN Hd
  refine ops_val (ex_assign rfl) ?_
  refine ops_nil ?_
  change Run _ _ _ _ [_, _, _, _, _, _, _, _] _
  refine run_ret ?_
  refine fin_ret1 rfl rfl ?_
  exact ⟨rfl, H1⟩
set_option maxRecDepth 100000 in
set_option maxHeartbeats 4000000 in
theorem orderC (a b : Rt) (w0 : World) :
    Does Tryz.prog 155 #[.agg [.int .i64 a.g, strV a.key, .int .i64 a.lease, .int .i64 a.net].toArray, .agg [.int .i64 b.g, strV b.key, .int .i64 b.lease, .int .i64 b.net].toArray] w0 (fun r w' => r = .int .i64 (ordR a b) ∧ Hp w0 w' [] []) := by
  refine does_of Tryz.func155 Tryz.ntmps155 rfl ?_
  refine nR20 ?_
  have H := Hp.refl w0
  refine run_seq ?_
  refine run_region ?_
  refine ops_box rfl rfl H ?_
  intro w1 g1 H1 hg1
  refine ops_box rfl rfl H1 ?_
  intro w2 g2 H2 hg2
  refine ops_val (ex_assign rfl) ?_
  refine ops_nil ?_
  refine nR20 ?_
  refine run_seq ?_
  refine run_seq ?_
  refine run_region ?_
  refine ops_val (ex_fieldAddr fl35_0 rfl) ?_
  refine ops_val (ex_load ty3 rfl (H2.cell (i := 0) rfl rfl)) ?_
  refine ops_val (ex_fieldAddr fl35_0 rfl) ?_
  refine ops_val (ex_load ty3 rfl (H2.cell (i := 1) rfl rfl)) ?_
  refine nO20 ?_
  refine ops_test (ex_neq rfl rfl) (fun hp9 => ?_) (fun hp9 => ?_)
  · skip
    refine ops_nil ?_
    refine nR20 ?_
    refine run_cond_true rfl ?_
    refine run_seq ?_
    refine run_seq ?_
    refine run_region ?_
    refine ops_val (ex_fieldAddr fl35_0 rfl) ?_
    refine ops_val (ex_load ty3 rfl (H2.cell (i := 0) rfl rfl)) ?_
    refine ops_val (ex_fieldAddr fl35_0 rfl) ?_
    refine ops_val (ex_load ty3 rfl (H2.cell (i := 1) rfl rfl)) ?_
    refine nO20 ?_
    refine ops_test (ex_lss rfl rfl) (fun hp14 => ?_) (fun hp14 => ?_)
    · skip
      refine ops_nil ?_
      refine nR20 ?_
      refine run_cond_true rfl ?_
      refine run_seq ?_
      refine run_region ?_
      refine ops_val (ex_assign rfl) ?_
      refine ops_nil ?_
      refine nR20 ?_
      refine run_ret ?_
      refine fin_ret1 rfl rfl ?_
      exact ⟨by unfold ordR; rw [if_pos (by omega), if_pos (by omega)], H2.noRows⟩
    · skip
      refine ops_nil ?_
      refine nR20 ?_
      refine run_cond_false rfl ?_
      refine run_skip ?_
      refine run_seq ?_
      refine run_region ?_
      refine ops_val (ex_assign rfl) ?_
      refine ops_nil ?_
      refine nR20 ?_
      refine run_ret ?_
      refine fin_ret1 rfl rfl ?_
      exact ⟨by unfold ordR; rw [if_pos (by omega), if_neg (by omega)], H2.noRows⟩
  · skip
    refine ops_nil ?_
    refine nR20 ?_
    refine run_cond_false rfl ?_
    refine run_skip ?_
    refine run_seq ?_
    refine run_region ?_
    refine ops_val (ex_fieldAddr fl35_1 rfl) ?_
    refine ops_val (ex_load ty9 rfl (H2.cell (i := 0) rfl rfl)) ?_
    refine ops_val (ex_fieldAddr fl35_1 rfl) ?_
    refine ops_val (ex_load ty9 rfl (H2.cell (i := 1) rfl rfl)) ?_
    refine nO20 ?_
    refine ops_call_val (ex_call gf186 rfl) (strcmp _ _ _) ?_
    intro w3 Hd
    have H3 := H2.callN Hd
    refine ops_val (ex_assign rfl) ?_
    refine ops_nil ?_
    refine nR20 ?_
    refine run_ret ?_
    refine fin_ret1 rfl rfl ?_
    exact ⟨by unfold ordR; rw [if_neg (by omega)], H3.noRows⟩
theorem cmp_vote {w : World} {ok : Nat → Prop} {n : Int} {ps : List (List Value)} {l : List Vt} (h2 : All2 (VtR w ok) ps l) (hr : Rise (fun x : Vt => cmpI x.slot n) l) : Cmp Tryz.prog 165 (.int .i64 n) (vtCf n) ps :=
  ⟨gf165, fun w1 p hp => by
    obtain ⟨i, hi⟩ := List.getElem?_of_mem hp
    obtain ⟨x, _, hR⟩ := h2.getL hi
    obtain ⟨A, k, rfl, _⟩ := hR
    exact voteC x.slot n _ _ _ w1, hr.mono h2 fun p x h => vtCf_eq h⟩
theorem cmp_mark {n : Int} {ps : List (List Value)} {l : List Mk} (h2 : All2 MkR ps l) (hr : Rise (fun x : Mk => cmpI x.client n) l) : Cmp Tryz.prog 190 (.int .i64 n) (mkCf n) ps :=
  ⟨gf190, fun w1 p hp => by
    obtain ⟨i, hi⟩ := List.getElem?_of_mem hp
    obtain ⟨x, _, hR⟩ := h2.getL hi
    unfold MkR at hR
    subst hR
    exact placeC x.client n _ _ _ _ _ _ w1, hr.mono h2 fun p x h => mkCf_eq h⟩
theorem cmp_right {r : Rt} {ps : List (List Value)} {l : List Rt} (h2 : All2 RtR ps l) (hr : Rise (fun x : Rt => ordR x r) l) : Cmp Tryz.prog 155 (.agg (rtC r).toArray) (rtCf r) ps :=
  ⟨gf155, fun w1 p hp => by
    obtain ⟨i, hi⟩ := List.getElem?_of_mem hp
    obtain ⟨x, _, hR⟩ := h2.getL hi
    have e := rtCf_eq (r := r) hR
    unfold RtR at hR
    subst hR
    rw [e]
    exact orderC x r w1, hr.mono h2 fun p x h => rtCf_eq h⟩
theorem prd_behind {w w0 : World} {ok : Nat → Prop} {n : Int} {gc : Nat} {gcs : List Value} {Tc : TypeId} {ps : List (List Value)} {l : List Vt} (h2 : All2 (VtR w ok) ps l) (hgc : w0.heap[gc]? = some (.cells gcs.toArray Tc (0, 0))) (hv : gcs[0]? = some (.int .i64 n)) : Prd Tryz.prog 195 gc (vtLe n) ps w0 :=
  ⟨gf195, (Array.getElem?_eq_some_iff.1 hgc).1, fun w1 h1 p hp => by
    obtain ⟨i, hi⟩ := List.getElem?_of_mem hp
    obtain ⟨x, _, hR⟩ := h2.getL hi
    obtain ⟨A, k, rfl, _⟩ := hR
    exact behindC x.slot n _ _ _ w1 gc gcs Tc (h1.trans hgc) hv⟩
theorem prd_image {w w0 : World} {ok : Nat → Prop} {n : Int} {gc : Nat} {gcs : List Value} {Tc : TypeId} {ps : List (List Value)} {l : List En} (h2 : All2 (EnR w ok) ps l) (hgc : w0.heap[gc]? = some (.cells gcs.toArray Tc (0, 0))) (hv : gcs[0]? = some (.int .i64 n)) : Prd Tryz.prog 169 gc (vtLe n) ps w0 :=
  ⟨gf169, (Array.getElem?_eq_some_iff.1 hgc).1, fun w1 h1 p hp => by
    obtain ⟨i, hi⟩ := List.getElem?_of_mem hp
    obtain ⟨x, _, hR⟩ := h2.getL hi
    obtain ⟨A, k, rfl, _⟩ := hR
    exact imageC x.slot n _ w1 gc gcs Tc (h1.trans hgc) hv⟩
theorem prd_spent {w0 : World} {n : Int} {gc : Nat} {gcs : List Value} {Tc : TypeId} {ps : List (List Value)} {l : List Mk} (h2 : All2 MkR ps l) (hgc : w0.heap[gc]? = some (.cells gcs.toArray Tc (0, 0))) (hv : gcs[14]? = some (.int .i64 n)) : Prd Tryz.prog 114 gc (mkIs n) ps w0 :=
  ⟨gf114, (Array.getElem?_eq_some_iff.1 hgc).1, fun w1 h1 p hp => by
    obtain ⟨i, hi⟩ := List.getElem?_of_mem hp
    obtain ⟨x, _, hR⟩ := h2.getL hi
    unfold MkR at hR
    subst hR
    exact spentC x.client n _ _ _ _ _ _ w1 gc gcs Tc (h1.trans hgc) hv⟩
end Go.Proofs.YtjoeklkmnfaabaaGreat
/-
  Regions in which two operations may come in either order: a schedule that branches.
-/
namespace Go.Proofs.YtjoeklkmnfaabaaGreat
open Go Go.RowKit
inductive Sch
  | nil
  | p (i : Nat) (s : Sch)
  | o (i : Nat) (s : Sch)
  | two (i : Nat) (s : Sch) (j : Nat) (t : Sch)
def Sch.size : Sch → Nat
  | .nil => 0
  | .p _ s => s.size + 1
  | .o _ s => s.size + 1
  | .two _ s _ _ => s.size + 1
def Sch.isNil : Sch → Bool
  | .nil => true
  | _ => false
theorem Sch.nil_of {s : Sch} (h : s.isNil = true) : s = .nil := by cases s <;> first | rfl | cases h
section mix
variable {P : Program} {ds : List Deferred} {all : List Oper} {S : World → Prop} {K : List Value → World → Prop} {l : List Value} {w : World} {o : Oper} {i : Nat}
def MixT (P : Program) (ds : List Deferred) (all : List Oper) (S : World → Prop) (K : List Value → World → Prop) : Sch → List Value → World → Prop
  | .nil, l, w => K l w
  | .p i s, l, w => ∃ o, all[i]? = some o ∧ Mix1 P all S (MixT P ds all S K s) o l w
  | .o i s, l, w => ∃ o, all[i]? = some o ∧ Ops P ds all (fun l' w' => (s ≠ .nil → S w') ∧ MixT P ds all S K s l' w') (fun _ _ _ => False) [o] l w
  | .two i s j t, l, w => (∃ o, all[i]? = some o ∧ Ops P ds all (fun l' w' => (s ≠ .nil → S w') ∧ MixT P ds all S K s l' w') (fun _ _ _ => False) [o] l w) ∧
    (∃ o, all[j]? = some o ∧ Ops P ds all (fun l' w' => (t ≠ .nil → S w') ∧ MixT P ds all S K t l' w') (fun _ _ _ => False) [o] l w)
theorem mixt_nil (h : K l w) : MixT P ds all S K .nil l w := h
theorem mixt_p {s : Sch} (ho : all[i]? = some o) (h : Mix1 P all S (MixT P ds all S K s) o l w) : MixT P ds all S K (.p i s) l w := ⟨o, ho, h⟩
theorem mixt_o {s : Sch} (ho : all[i]? = some o) (h : Ops P ds all (fun l' w' => (s ≠ .nil → S w') ∧ MixT P ds all S K s l' w') (fun _ _ _ => False) [o] l w) : MixT P ds all S K (.o i s) l w := ⟨o, ho, h⟩
theorem mixt_two {s t : Sch} {j : Nat} (h1 : MixT P ds all S K (.o i s) l w) (h2 : MixT P ds all S K (.o j t) l w) : MixT P ds all S K (.two i s j t) l w := ⟨h1, h2⟩
def mixTB (ops : Array Oper) (z : Nat) : Sch → Array Bool → Bool
  | .nil, listed => (Region.ready .any ops listed).isEmpty
  | .p i s, listed => decide (i < z) && (Region.ready .any ops listed).contains i && Region.free .any ops listed i && mixTB ops z s (listed.setIfInBounds i true)
  | .o i s, listed => ((decide (i < z) && !s.isNil) || (decide (i = z) && s.isNil)) && decide (Region.ready .any ops listed = [i]) && mixTB ops z s (listed.setIfInBounds i true)
  | .two i s j t, listed => decide (i < z) && decide (j < z) && !s.isNil && !t.isNil && decide (s.size = t.size) && decide (Region.ready .any ops listed = [i, j]) && mixTB ops z s (listed.setIfInBounds i true) && mixTB ops z t (listed.setIfInBounds j true)
theorem mixt_step {z : Nat} {s : Sch} {listed : Array Bool} (hd : s.isNil = false ∨ i = z) (h : ∃ o, all[i]? = some o ∧ Ops P ds all (fun l' w' => (s ≠ .nil → S w') ∧ MixT P ds all S K s l' w') (fun _ _ _ => False) [o] l w)
    (IH : ∀ (l : List Value) (w : World), (s ≠ .nil → S w) → MixT P ds all S K s l w → wpAnyZ P all.toArray (fun e a w' => a.defers = ds ∧ seqQ K (fun _ _ _ => False) e a.tmps.toList w') S z s.size (listed.setIfInBounds i true) ⟨l.toArray, ds⟩ w) :
    wpOp P all.toArray (fun e a w' => a.defers = ds ∧ seqQ K (fun _ _ _ => False) e a.tmps.toList w') i (fun a' w' => (i ≠ z → S w') ∧ wpAnyZ P all.toArray (fun e a w' => a.defers = ds ∧ seqQ K (fun _ _ _ => False) e a.tmps.toList w') S z s.size (listed.setIfInBounds i true) a' w') ⟨l.toArray, ds⟩ w := by
  obtain ⟨o, ho, h⟩ := h
  unfold Ops wpList at h
  unfold wpOp
  rw [List.getElem?_toArray, ho]
  simp only
  have hne : i ≠ z → s ≠ .nil := fun h1 h3 => by
    subst h3
    rcases hd with h2 | h2
    · cases h2
    · exact h1 h2
  have ih : ∀ (a : Act) w', (a.defers = ds ∧ (s ≠ .nil → S w') ∧ MixT P ds all S K s a.tmps.toList w') → ((i ≠ z → S w') ∧ wpAnyZ P all.toArray (fun e a w' => a.defers = ds ∧ seqQ K (fun _ _ _ => False) e a.tmps.toList w') S z s.size (listed.setIfInBounds i true) a w') := by
    rintro ⟨t, d⟩ w' ⟨hd, hS', h2⟩
    simp only at hd
    subst hd
    exact ⟨fun h1 => hS' (hne h1), IH _ _ hS' h2⟩
  have hq : ∀ (e : Exit) (a : Act) w', e ≠ .normal → Exit.then (fun (a : Act) w' => a.defers = ds ∧ (s ≠ .nil → S w') ∧ MixT P ds all S K s a.tmps.toList w') (fun _ a _ => a.defers = ds ∧ False) e a w' → (a.defers = ds ∧ seqQ K (fun _ _ _ => False) e a.tmps.toList w') := by
    intro e a w' he h
    cases e <;> first | exact absurd rfl he | exact h.2.elim
  split
  · rename_i hw
    rw [if_pos hw] at h
    rcases h with h | ⟨h1, a1, w1, h2⟩
    · exact .inl (Oper.wp_mono ih (wp_alt hq h))
    · exact .inr ⟨h1, a1, w1, hq _ _ _ (by simp) h2⟩
  · rename_i hw
    rw [if_neg hw] at h
    exact ih _ _ h
theorem mixt_any {z : Nat} (hsel : Region.noSelect all.toArray = true) (hs : Region.sinkB .any all.toArray z = true) (hz : z + 1 = all.toArray.size) : ∀ (s : Sch) (listed : Array Bool) (l : List Value) (w : World), (s ≠ .nil → HeadInv .any all.toArray z listed) → mixTB all.toArray z s listed = true → (s ≠ .nil → S w) → MixT P ds all S K s l w →
    wpAnyZ P all.toArray (fun e a w' => a.defers = ds ∧ seqQ K (fun _ _ _ => False) e a.tmps.toList w') S z s.size listed ⟨l.toArray, ds⟩ w := by
  intro s
  induction s with
  | nil => intro listed l w _ hB _ h; exact ⟨by simpa [mixTB] using hB, rfl, h⟩
  | o i s IH =>
    intro listed l w inv hB hS h
    simp only [mixTB, Bool.and_eq_true, Bool.or_eq_true, decide_eq_true_eq, Bool.not_eq_true'] at hB
    obtain ⟨⟨hiz, hr⟩, hB'⟩ := hB
    have hready : i ∈ Region.ready .any all.toArray listed := by rw [hr]; simp
    have hlast : s ≠ .nil → i < z := fun h => by
      rcases hiz with h1 | h1
      · exact h1.1
      · exact absurd (Sch.nil_of h1.2) h
    refine ⟨fun h0 => (by rw [hr] at h0; cases h0), fun k hk => ?_⟩
    have hki : k = i := by rw [hr] at hk; simpa using hk
    rw [hki]
    exact mixt_step (by rcases hiz with h1 | h1; exact .inl h1.2; exact .inr h1.1) h fun l w hS' h2 => IH _ _ _ (fun h1 => (inv (by simp)).set hready (hlast h1)) hB' hS' h2
  | two i s j t IH1 IH2 =>
    intro listed l w inv hB hS h
    simp only [mixTB, Bool.and_eq_true, decide_eq_true_eq, Bool.not_eq_true'] at hB
    obtain ⟨⟨⟨⟨⟨⟨⟨hiz, hjz⟩, hsn⟩, htn⟩, hsz⟩, hr⟩, hB1⟩, hB2⟩ := hB
    have hri : i ∈ Region.ready .any all.toArray listed := by rw [hr]; simp
    have hrj : j ∈ Region.ready .any all.toArray listed := by rw [hr]; simp
    refine ⟨fun h0 => (by rw [hr] at h0; cases h0), fun k hk => ?_⟩
    have hk2 : k = i ∨ k = j := by rw [hr] at hk; simpa using hk
    rcases hk2 with rfl | rfl
    · exact mixt_step (.inl hsn) h.1 fun l w hS' h2 => IH1 _ _ _ (fun _ => (inv (by simp)).set hri hiz) hB1 hS' h2
    · rw [hsz]
      exact mixt_step (.inl htn) h.2 fun l w hS' h2 => IH2 _ _ _ (fun _ => (inv (by simp)).set hrj hjz) hB2 hS' h2
  | p i s IH =>
    rintro listed l w inv hB hS ⟨o, ho, v, hv, hK⟩
    simp only [mixTB, Bool.and_eq_true, decide_eq_true_eq] at hB
    obtain ⟨⟨⟨hiz, hr⟩, hf⟩, hB'⟩ := hB
    have hi : all.toArray[i]? = some o := by rw [List.getElem?_toArray]; exact ho
    have hready : i ∈ Region.ready .any all.toArray listed := by simpa using hr
    refine Z_first (oi := o) (v := v) hi (Region.noSelect_spec hsel) (fun _ _ _ h => h.2.elim) hs hz hiz s.size listed _ w (inv (by simp)) (Region.free_spec hi hf) hready ?_ (hS (by simp)) ?_
    · rcases hv with ⟨h1, h2⟩ | ⟨h1, h2⟩
      · exact .inl ⟨h1, by rw [rho_eq]; exact h2⟩
      · exact .inr ⟨h1, h2⟩
    · rw [put_putL]
      exact IH _ _ _ (fun _ => (inv (by simp)).set hready hiz) hB' (fun _ => hS (by simp)) hK
theorem run_mixT {Q : Post} {cs : List Code} {n : Nat} {w0 : World} {SS : List Nat} {es : List Ent} (z : Nat) (s : Sch) (H : Hp w0 w SS es) (idx : List Nat) (hm : P.follows .mixedOrders = true) (hnd : idx.Nodup)
    (hB : (Region.noSelect all.toArray && decide (s.size = all.length) && decide (z + 1 = all.length) && Region.sinkB .any all.toArray z && mixTB all.toArray z s (Array.replicate all.length false)) = true)
    (h : ∀ w', w' = { w with drawn := w.drawn + 1 } → MixT P ds all (fun wz => Hp w0 wz SS (idx.map fun i => es.getD i (none, 0, []))) (Run P ds cs Q) s l w') : Run P ds (.region n all.toArray true :: cs) Q l w := by
  simp only [Bool.and_eq_true, decide_eq_true_eq] at hB
  obtain ⟨⟨⟨⟨hsel, hlen⟩, hz⟩, hs⟩, hB⟩ := hB
  show Cd P ds _ _ l w
  unfold Cd
  have inv0 : HeadInv .any all.toArray z (Array.replicate all.toArray.size false) :=
    ⟨by simp, fun j oj _ hl => (by rw [getD_replicate_false] at hl; cases hl), fun t _ ht => getD_in (by simpa using ht) (getD_replicate_false _ _)⟩
  refine Go.wp_mono (Q := fun e a w' => a.defers = ds ∧ seqQ (Run P ds cs Q) (fun _ _ _ => False) e a.tmps.toList w') (wp_region_any hm ?_) ?_
  · have := mixt_any (S := fun wz => Hp w0 wz SS (idx.map fun i => es.getD i (none, 0, []))) (K := Run P ds cs Q) (P := P) (ds := ds) hsel hs (by simpa using hz) s _ l { w with drawn := w.drawn + 1 } (fun _ => by simpa using inv0) hB (fun _ => H.drew.pick idx hnd) (h _ rfl)
    rw [hlen] at this
    have h2 := any_of_Z _ _ _ _ this
    simpa using h2
  · rintro e a w' ⟨hd, h2⟩
    cases e <;> first | exact ⟨hd, h2⟩ | exact h2.elim
end mix
end Go.Proofs.YtjoeklkmnfaabaaGreat
/- Walks of layer 2, printed by wip/gen/codec.py. -/
namespace Go.Proofs.YtjoeklkmnfaabaaGreat
open Go Go.RowKit
set_option linter.unusedVariables false
attribute [local irreducible] Still Ops Does Cd
theorem pl75 : placesOf Tryz.prog 75 = some [(0, 1), (1, 1)] := by kernel_rfl
theorem pl35 : placesOf Tryz.prog 35 = some [(0, 1), (1, 1), (2, 1), (3, 1)] := by kernel_rfl
theorem pl110 : placesOf Tryz.prog 110 = some [(0, 1), (1, 1), (2, 1), (3, 4)] := by kernel_rfl
theorem pl41 : placesOf Tryz.prog 41 = some [(0, 1), (1, 1), (2, 1)] := by kernel_rfl
theorem pl81 : placesOf Tryz.prog 81 = some [(0, 1), (1, 1), (2, 2), (4, 4), (8, 2), (10, 4), (14, 1), (15, 1)] := by kernel_rfl
theorem pl263 : placesOf Tryz.prog 263 = some [(0, 2), (2, 1), (3, 1)] := by kernel_rfl
set_option maxRecDepth 100000 in
set_option maxHeartbeats 4000000 in
theorem known_b (n : Int) (w0 : World) :
    Does Tryz.prog 197 #[.int .i64 n] w0 (fun r w' => r = .bool (decide (1 ≤ n ∧ n ≤ 5)) ∧ Hp w0 w' [] []) := by
  refine does_of Tryz.func197 Tryz.ntmps197 rfl ?_
  change Run _ _ _ _ [.int .i64 n, undef, undef, undef, undef, undef, undef, undef, undef] _
  have H := Hp.refl w0
  refine run_seq ?_
  refine run_region ?_
  refine ops_val (ex_assign rfl) ?_
  refine ops_nil ?_
  change Run _ _ _ _ [_, _, _, _, _, _, _, _, _] _
  refine run_seq ?_
  refine run_region ?_
  refine ops_val (ex_move rfl) ?_
  refine ops_test (ex_geq rfl rfl) (fun hp4 => ?_) (fun hp4 => ?_)
  · skip
    refine ops_val (ex_move rfl) ?_
    change Ops _ _ _ _ _ _ [_, _, _, _, _, _, _, _, _] _
    refine ops_yes rfl ?_
    refine ops_val (ex_move rfl) ?_
    refine ops_yes rfl ?_
    refine ops_test (ex_leq rfl rfl) (fun hp7 => ?_) (fun hp7 => ?_)
    · skip
      refine ops_val (ex_pick_t rfl rfl) ?_
      refine ops_val (ex_assign rfl) ?_
      refine ops_nil ?_
      change Run _ _ _ _ [_, _, _, _, _, _, _, _, _] _
      refine run_ret ?_
      refine fin_ret1 rfl rfl ?_
      exact ⟨bt (by omega), H.noRows⟩
    · skip
      refine ops_val (ex_pick_t rfl rfl) ?_
      refine ops_val (ex_assign rfl) ?_
      refine ops_nil ?_
      change Run _ _ _ _ [_, _, _, _, _, _, _, _, _] _
      refine run_ret ?_
      refine fin_ret1 rfl rfl ?_
      exact ⟨bf (by omega), H.noRows⟩
  · skip
    refine ops_val (ex_move rfl) ?_
    change Ops _ _ _ _ _ _ [_, _, _, _, _, _, _, _, _] _
    refine ops_no rfl ?_
    refine ops_no rfl ?_
    refine ops_val (ex_pick_f rfl rfl) ?_
    refine ops_val (ex_assign rfl) ?_
    refine ops_nil ?_
    change Run _ _ _ _ [_, _, _, _, _, _, _, _, _] _
    refine run_ret ?_
    refine fin_ret1 rfl rfl ?_
    exact ⟨bf (by omega), H.noRows⟩
set_option maxRecDepth 100000 in
set_option maxHeartbeats 4000000 in
theorem group_l (n : Int) (w0 : World) :
    Does Tryz.prog 185 #[.int .i64 n] w0 (fun r w' => r = .bool (decide (1 ≤ n ∧ n < 8)) ∧ Hp w0 w' [] []) := by
  refine does_of Tryz.func185 Tryz.ntmps185 rfl ?_
  change Run _ _ _ _ [.int .i64 n, undef, undef, undef, undef, undef, undef, undef, undef] _
  have H := Hp.refl w0
  refine run_seq ?_
  refine run_region ?_
  refine ops_val (ex_assign rfl) ?_
  refine ops_nil ?_
  change Run _ _ _ _ [_, _, _, _, _, _, _, _, _] _
  refine run_seq ?_
  refine run_region ?_
  refine ops_val (ex_move rfl) ?_
  refine ops_test (ex_geq rfl rfl) (fun hp4 => ?_) (fun hp4 => ?_)
  · skip
    refine ops_val (ex_move rfl) ?_
    change Ops _ _ _ _ _ _ [_, _, _, _, _, _, _, _, _] _
    refine ops_yes rfl ?_
    refine ops_val (ex_move rfl) ?_
    refine ops_yes rfl ?_
    refine ops_test (ex_lss rfl rfl) (fun hp7 => ?_) (fun hp7 => ?_)
    · skip
      refine ops_val (ex_pick_t rfl rfl) ?_
      refine ops_val (ex_assign rfl) ?_
      refine ops_nil ?_
      change Run _ _ _ _ [_, _, _, _, _, _, _, _, _] _
      refine run_ret ?_
      refine fin_ret1 rfl rfl ?_
      exact ⟨bt (by omega), H.noRows⟩
    · skip
      refine ops_val (ex_pick_t rfl rfl) ?_
      refine ops_val (ex_assign rfl) ?_
      refine ops_nil ?_
      change Run _ _ _ _ [_, _, _, _, _, _, _, _, _] _
      refine run_ret ?_
      refine fin_ret1 rfl rfl ?_
      exact ⟨bf (by omega), H.noRows⟩
  · skip
    refine ops_val (ex_move rfl) ?_
    change Ops _ _ _ _ _ _ [_, _, _, _, _, _, _, _, _] _
    refine ops_no rfl ?_
    refine ops_no rfl ?_
    refine ops_val (ex_pick_f rfl rfl) ?_
    refine ops_val (ex_assign rfl) ?_
    refine ops_nil ?_
    change Run _ _ _ _ [_, _, _, _, _, _, _, _, _] _
    refine run_ret ?_
    refine fin_ret1 rfl rfl ?_
    exact ⟨bf (by omega), H.noRows⟩
set_option maxRecDepth 100000 in
set_option maxHeartbeats 4000000 in
theorem less_b (a b : Bal) (w0 : World) :
    Does Tryz.prog 162 #[.agg [.int .i64 a.r, .int .i64 a.n].toArray, .agg [.int .i64 b.r, .int .i64 b.n].toArray] w0 (fun r w' => r = .bool (decide (Bal.lt a b)) ∧ Hp w0 w' [] []) := by
  refine does_of Tryz.func162 Tryz.ntmps162 rfl ?_
  refine nR24 ?_
  have H := Hp.refl w0
  refine run_seq ?_
  refine run_region ?_
  refine ops_box rfl rfl H ?_
  intro w1 g1 H1 hg1
  refine ops_box rfl rfl H1 ?_
  intro w2 g2 H2 hg2
  refine ops_val (ex_assign rfl) ?_
  refine ops_nil ?_
  refine nR24 ?_
  refine run_seq ?_
  refine run_region ?_
  refine ops_val (ex_fieldAddr fl75_0 rfl) ?_
  refine ops_val (ex_load ty3 rfl (H2.cell (i := 0) rfl rfl)) ?_
  refine ops_val (ex_fieldAddr fl75_0 rfl) ?_
  refine ops_val (ex_load ty3 rfl (H2.cell (i := 1) rfl rfl)) ?_
  refine nO24 ?_
  refine ops_test (ex_lss rfl rfl) (fun hp9 => ?_) (fun hp9 => ?_)
  · skip
    refine ops_val (ex_move rfl) ?_
    refine ops_no rfl ?_
    refine nO24 ?_
    refine ops_no rfl ?_
    refine ops_no rfl ?_
    refine nO24 ?_
    refine ops_no rfl ?_
    refine ops_no rfl ?_
    refine nO24 ?_
    refine ops_no rfl ?_
    refine ops_no rfl ?_
    refine nO24 ?_
    refine ops_no rfl ?_
    refine ops_no rfl ?_
    refine nO24 ?_
    refine ops_no rfl ?_
    refine ops_no rfl ?_
    refine nO24 ?_
    refine ops_no rfl ?_
    refine ops_val (ex_pick_t rfl rfl) ?_
    refine ops_val (ex_assign rfl) ?_
    refine ops_nil ?_
    refine nR24 ?_
    refine run_ret ?_
    refine fin_ret1 rfl rfl ?_
    exact ⟨bt (by omega), H2.noRows⟩
  · skip
    refine ops_val (ex_move rfl) ?_
    refine ops_yes rfl ?_
    refine ops_val (ex_fieldAddr fl75_0 rfl) ?_
    refine nO24 ?_
    refine ops_yes rfl ?_
    refine ops_val (ex_load ty3 rfl (H2.cell (i := 0) rfl rfl)) ?_
    refine ops_yes rfl ?_
    refine ops_val (ex_fieldAddr fl75_0 rfl) ?_
    refine nO24 ?_
    refine ops_yes rfl ?_
    refine ops_val (ex_load ty3 rfl (H2.cell (i := 1) rfl rfl)) ?_
    refine ops_yes rfl ?_
    refine ops_test (ex_eql rfl rfl) (fun hp15 => ?_) (fun hp15 => ?_)
    · skip
      refine ops_yes rfl ?_
      refine ops_val (ex_move rfl) ?_
      refine nO24 ?_
      refine ops_yes rfl ?_
      refine ops_val (ex_fieldAddr fl75_1 rfl) ?_
      refine ops_yes rfl ?_
      refine ops_val (ex_load ty3 rfl (H2.cell (i := 0) rfl rfl)) ?_
      refine nO24 ?_
      refine ops_yes rfl ?_
      refine ops_val (ex_fieldAddr fl75_1 rfl) ?_
      refine ops_yes rfl ?_
      refine ops_val (ex_load ty3 rfl (H2.cell (i := 1) rfl rfl)) ?_
      refine nO24 ?_
      refine ops_yes rfl ?_
      refine ops_test (ex_lss rfl rfl) (fun hp21 => ?_) (fun hp21 => ?_)
      · skip
        refine ops_yes rfl ?_
        refine ops_val (ex_pick_t rfl rfl) ?_
        refine ops_val (ex_pick_f rfl rfl) ?_
        refine ops_val (ex_assign rfl) ?_
        refine ops_nil ?_
        refine nR24 ?_
        refine run_ret ?_
        refine fin_ret1 rfl rfl ?_
        exact ⟨bt (by omega), H2.noRows⟩
      · skip
        refine ops_yes rfl ?_
        refine ops_val (ex_pick_t rfl rfl) ?_
        refine ops_val (ex_pick_f rfl rfl) ?_
        refine ops_val (ex_assign rfl) ?_
        refine ops_nil ?_
        refine nR24 ?_
        refine run_ret ?_
        refine fin_ret1 rfl rfl ?_
        exact ⟨bf (by omega), H2.noRows⟩
    · skip
      refine ops_yes rfl ?_
      refine ops_val (ex_move rfl) ?_
      refine nO24 ?_
      refine ops_no rfl ?_
      refine ops_no rfl ?_
      refine nO24 ?_
      refine ops_no rfl ?_
      refine ops_no rfl ?_
      refine nO24 ?_
      refine ops_no rfl ?_
      refine ops_yes rfl ?_
      refine ops_val (ex_pick_f rfl rfl) ?_
      refine ops_val (ex_pick_f rfl rfl) ?_
      refine ops_val (ex_assign rfl) ?_
      refine ops_nil ?_
      refine nR24 ?_
      refine run_ret ?_
      refine fin_ret1 rfl rfl ?_
      exact ⟨bf (by omega), H2.noRows⟩
set_option maxRecDepth 100000 in
set_option maxHeartbeats 4000000 in
theorem may_b (a : Bal) (n : Int) (w0 : World) :
    Does Tryz.prog 170 #[.agg [.int .i64 a.r, .int .i64 a.n].toArray, .int .i64 n] w0 (fun r w' => r = .bool (decide (1 ≤ n ∧ n ≤ 5 ∧ 1 ≤ a.r ∧ 1 ≤ a.n ∧ a.n ≤ n)) ∧ Hp w0 w' [] []) := by
  refine does_of Tryz.func170 Tryz.ntmps170 rfl ?_
  refine nR23 ?_
  have H := Hp.refl w0
  refine run_seq ?_
  refine run_region ?_
  refine ops_box rfl rfl H ?_
  intro w1 g1 H1 hg1
  refine ops_val (ex_assign rfl) ?_
  refine ops_nil ?_
  refine nR23 ?_
  refine run_seq ?_
  refine run_region ?_
  refine ops_val (ex_move rfl) ?_
  refine ops_call_test (ex_call gf197 rfl) (known_b _ _) (fun hp6 w2 Hd => ?_) (fun hp6 w2 Hd => ?_)
  · have H2 := H1.callN Hd
    refine ops_val (ex_move rfl) ?_
    refine nO23 ?_
    refine ops_yes rfl ?_
    refine ops_val (ex_fieldAddr fl75_0 rfl) ?_
    refine ops_yes rfl ?_
    refine ops_val (ex_load ty3 rfl (H2.cell (i := 0) rfl rfl)) ?_
    refine nO23 ?_
    refine ops_yes rfl ?_
    refine ops_test (ex_geq rfl rfl) (fun hp10 => ?_) (fun hp10 => ?_)
    · skip
      refine ops_val (ex_pick_t rfl rfl) ?_
      refine ops_val (ex_move rfl) ?_
      refine nO23 ?_
      refine ops_yes rfl ?_
      refine ops_val (ex_fieldAddr fl75_1 rfl) ?_
      refine ops_yes rfl ?_
      refine ops_val (ex_load ty3 rfl (H2.cell (i := 0) rfl rfl)) ?_
      refine nO23 ?_
      refine ops_yes rfl ?_
      refine ops_test (ex_geq rfl rfl) (fun hp15 => ?_) (fun hp15 => ?_)
      · skip
        refine ops_val (ex_pick_t rfl rfl) ?_
        refine ops_val (ex_move rfl) ?_
        refine nO23 ?_
        refine ops_yes rfl ?_
        refine ops_val (ex_fieldAddr fl75_1 rfl) ?_
        refine ops_yes rfl ?_
        refine ops_val (ex_load ty3 rfl (H2.cell (i := 0) rfl rfl)) ?_
        refine nO23 ?_
        refine ops_yes rfl ?_
        refine ops_val (ex_move rfl) ?_
        refine ops_yes rfl ?_
        refine ops_test (ex_leq rfl rfl) (fun hp21 => ?_) (fun hp21 => ?_)
        · skip
          refine ops_val (ex_pick_t rfl rfl) ?_
          refine ops_val (ex_assign rfl) ?_
          refine ops_nil ?_
          refine nR23 ?_
          refine run_ret ?_
          refine fin_ret1 rfl rfl ?_
          exact ⟨bt (by omega), H2.noRows⟩
        · skip
          refine ops_val (ex_pick_t rfl rfl) ?_
          refine ops_val (ex_assign rfl) ?_
          refine ops_nil ?_
          refine nR23 ?_
          refine run_ret ?_
          refine fin_ret1 rfl rfl ?_
          exact ⟨bf (by omega), H2.noRows⟩
      · skip
        refine ops_val (ex_pick_t rfl rfl) ?_
        refine ops_val (ex_move rfl) ?_
        refine nO23 ?_
        refine ops_no rfl ?_
        refine ops_no rfl ?_
        refine nO23 ?_
        refine ops_no rfl ?_
        refine ops_no rfl ?_
        refine ops_val (ex_pick_f rfl rfl) ?_
        refine ops_val (ex_assign rfl) ?_
        refine ops_nil ?_
        refine nR23 ?_
        refine run_ret ?_
        refine fin_ret1 rfl rfl ?_
        exact ⟨bf (by omega), H2.noRows⟩
    · skip
      refine ops_val (ex_pick_t rfl rfl) ?_
      refine ops_val (ex_move rfl) ?_
      refine nO23 ?_
      refine ops_no rfl ?_
      refine ops_no rfl ?_
      refine nO23 ?_
      refine ops_no rfl ?_
      refine ops_val (ex_pick_f rfl rfl) ?_
      refine ops_val (ex_move rfl) ?_
      refine nO23 ?_
      refine ops_no rfl ?_
      refine ops_no rfl ?_
      refine nO23 ?_
      refine ops_no rfl ?_
      refine ops_no rfl ?_
      refine ops_val (ex_pick_f rfl rfl) ?_
      refine ops_val (ex_assign rfl) ?_
      refine ops_nil ?_
      refine nR23 ?_
      refine run_ret ?_
      refine fin_ret1 rfl rfl ?_
      exact ⟨bf (by omega), H2.noRows⟩
  · have H2 := H1.callN Hd
    refine ops_val (ex_move rfl) ?_
    refine nO23 ?_
    refine ops_no rfl ?_
    refine ops_no rfl ?_
    refine nO23 ?_
    refine ops_no rfl ?_
    refine ops_val (ex_pick_f rfl rfl) ?_
    refine ops_val (ex_move rfl) ?_
    refine nO23 ?_
    refine ops_no rfl ?_
    refine ops_no rfl ?_
    refine nO23 ?_
    refine ops_no rfl ?_
    refine ops_val (ex_pick_f rfl rfl) ?_
    refine ops_val (ex_move rfl) ?_
    refine nO23 ?_
    refine ops_no rfl ?_
    refine ops_no rfl ?_
    refine nO23 ?_
    refine ops_no rfl ?_
    refine ops_no rfl ?_
    refine ops_val (ex_pick_f rfl rfl) ?_
    refine ops_val (ex_assign rfl) ?_
    refine ops_nil ?_
    refine nR23 ?_
    refine run_ret ?_
    refine fin_ret1 rfl rfl ?_
    exact ⟨bf (by omega), H2.noRows⟩
set_option maxRecDepth 100000 in
set_option maxHeartbeats 4000000 in
theorem real_a (a : Bal) (w0 : World) :
    Does Tryz.prog 198 #[.agg [.int .i64 a.r, .int .i64 a.n].toArray] w0 (fun r w' => r = .bool (decide (1 ≤ a.r ∧ 1 ≤ a.n)) ∧ Hp w0 w' [] []) := by
  refine does_of Tryz.func198 Tryz.ntmps198 rfl ?_
  change Run _ _ _ _ [.agg [.int .i64 a.r, .int .i64 a.n].toArray, undef, undef, undef, undef, undef, undef, undef, undef, undef, undef] _
  have H := Hp.refl w0
  refine run_seq ?_
  refine run_region ?_
  refine ops_box rfl rfl H ?_
  intro w1 g1 H1 hg1
  refine ops_val (ex_assign rfl) ?_
  refine ops_nil ?_
  change Run _ _ _ _ [_, _, _, _, _, _, _, _, _, _, _] _
  refine run_seq ?_
  refine run_region ?_
  refine ops_val (ex_fieldAddr fl75_0 rfl) ?_
  refine ops_val (ex_load ty3 rfl (H1.cell (i := 0) rfl rfl)) ?_
  refine ops_test (ex_geq rfl rfl) (fun hp5 => ?_) (fun hp5 => ?_)
  · skip
    refine ops_val (ex_move rfl) ?_
    change Ops _ _ _ _ _ _ [_, _, _, _, _, _, _, _, _, _, _] _
    refine ops_yes rfl ?_
    refine ops_val (ex_fieldAddr fl75_1 rfl) ?_
    refine ops_yes rfl ?_
    refine ops_val (ex_load ty3 rfl (H1.cell (i := 0) rfl rfl)) ?_
    change Ops _ _ _ _ _ _ [_, _, _, _, _, _, _, _, _, _, _] _
    refine ops_yes rfl ?_
    refine ops_test (ex_geq rfl rfl) (fun hp9 => ?_) (fun hp9 => ?_)
    · skip
      refine ops_val (ex_pick_t rfl rfl) ?_
      refine ops_val (ex_assign rfl) ?_
      refine ops_nil ?_
      change Run _ _ _ _ [_, _, _, _, _, _, _, _, _, _, _] _
      refine run_ret ?_
      refine fin_ret1 rfl rfl ?_
      exact ⟨bt (by omega), H1.noRows⟩
    · skip
      refine ops_val (ex_pick_t rfl rfl) ?_
      refine ops_val (ex_assign rfl) ?_
      refine ops_nil ?_
      change Run _ _ _ _ [_, _, _, _, _, _, _, _, _, _, _] _
      refine run_ret ?_
      refine fin_ret1 rfl rfl ?_
      exact ⟨bf (by omega), H1.noRows⟩
  · skip
    refine ops_val (ex_move rfl) ?_
    change Ops _ _ _ _ _ _ [_, _, _, _, _, _, _, _, _, _, _] _
    refine ops_no rfl ?_
    refine ops_no rfl ?_
    change Ops _ _ _ _ _ _ [_, _, _, _, _, _, _, _, _, _, _] _
    refine ops_no rfl ?_
    refine ops_val (ex_pick_f rfl rfl) ?_
    refine ops_val (ex_assign rfl) ?_
    refine ops_nil ?_
    change Run _ _ _ _ [_, _, _, _, _, _, _, _, _, _, _] _
    refine run_ret ?_
    refine fin_ret1 rfl rfl ?_
    exact ⟨bf (by omega), H1.noRows⟩
set_option maxRecDepth 100000 in
set_option maxHeartbeats 4000000 in
theorem may_l (a : Rt) (w0 : World) :
    Does Tryz.prog 153 #[.agg [.int .i64 a.g, strV a.key, .int .i64 a.lease, .int .i64 a.net].toArray] w0 (fun r w' => r = .bool (decide (mayR a)) ∧ Hp w0 w' [] []) := by
  refine does_of Tryz.func153 Tryz.ntmps153 rfl ?_
  refine nR23 ?_
  have H := Hp.refl w0
  refine run_seq ?_
  refine run_region ?_
  refine ops_box rfl rfl H ?_
  intro w1 g1 H1 hg1
  refine ops_val (ex_assign rfl) ?_
  refine ops_nil ?_
  refine nR23 ?_
  refine run_seq ?_
  refine run_region ?_
  refine ops_val (ex_fieldAddr fl35_0 rfl) ?_
  refine ops_val (ex_load ty3 rfl (H1.cell (i := 0) rfl rfl)) ?_
  refine ops_call_test (ex_call gf185 rfl) (group_l _ _) (fun hp5 w2 Hd => ?_) (fun hp5 w2 Hd => ?_)
  · have H2 := H1.callN Hd
    refine ops_val (ex_move rfl) ?_
    refine nO23 ?_
    refine ops_yes rfl ?_
    refine ops_val (ex_fieldAddr fl35_1 rfl) ?_
    refine ops_yes rfl ?_
    refine ops_val (ex_load ty9 rfl (H2.cell (i := 0) rfl rfl)) ?_
    refine nO23 ?_
    refine ops_yes rfl ?_
    refine ops_val (ex_len_strV Tryz.underlying9 rfl) ?_
    refine ops_yes rfl ?_
    refine ops_test (ex_geq rfl rfl) (fun hp10 => ?_) (fun hp10 => ?_)
    · skip
      refine ops_val (ex_pick_t rfl rfl) ?_
      refine ops_val (ex_move rfl) ?_
      refine nO23 ?_
      refine ops_yes rfl ?_
      refine ops_val (ex_fieldAddr fl35_1 rfl) ?_
      refine ops_yes rfl ?_
      refine ops_val (ex_load ty9 rfl (H2.cell (i := 0) rfl rfl)) ?_
      refine nO23 ?_
      refine ops_yes rfl ?_
      refine ops_val (ex_len_strV Tryz.underlying9 rfl) ?_
      refine ops_yes rfl ?_
      refine ops_test (ex_leq rfl rfl) (fun hp16 => ?_) (fun hp16 => ?_)
      · skip
        refine ops_val (ex_pick_t rfl rfl) ?_
        refine ops_val (ex_move rfl) ?_
        refine nO23 ?_
        refine ops_yes rfl ?_
        refine ops_val (ex_fieldAddr fl35_2 rfl) ?_
        refine ops_yes rfl ?_
        refine ops_val (ex_load ty3 rfl (H2.cell (i := 0) rfl rfl)) ?_
        refine nO23 ?_
        refine ops_yes rfl ?_
        refine ops_test (ex_geq rfl rfl) (fun hp21 => ?_) (fun hp21 => ?_)
        · skip
          refine ops_val (ex_pick_t rfl rfl) ?_
          refine ops_val (ex_assign rfl) ?_
          refine ops_nil ?_
          refine nR23 ?_
          refine run_ret ?_
          refine fin_ret1 rfl rfl ?_
          exact ⟨bt (by omega), H2.noRows⟩
        · skip
          refine ops_val (ex_pick_t rfl rfl) ?_
          refine ops_val (ex_assign rfl) ?_
          refine ops_nil ?_
          refine nR23 ?_
          refine run_ret ?_
          refine fin_ret1 rfl rfl ?_
          exact ⟨bf (by omega), H2.noRows⟩
      · skip
        refine ops_val (ex_pick_t rfl rfl) ?_
        refine ops_val (ex_move rfl) ?_
        refine nO23 ?_
        refine ops_no rfl ?_
        refine ops_no rfl ?_
        refine nO23 ?_
        refine ops_no rfl ?_
        refine ops_val (ex_pick_f rfl rfl) ?_
        refine ops_val (ex_assign rfl) ?_
        refine ops_nil ?_
        refine nR23 ?_
        refine run_ret ?_
        refine fin_ret1 rfl rfl ?_
        exact ⟨bf (by omega), H2.noRows⟩
    · skip
      refine ops_val (ex_pick_t rfl rfl) ?_
      refine ops_val (ex_move rfl) ?_
      refine nO23 ?_
      refine ops_no rfl ?_
      refine ops_no rfl ?_
      refine nO23 ?_
      refine ops_no rfl ?_
      refine ops_no rfl ?_
      refine ops_val (ex_pick_f rfl rfl) ?_
      refine ops_val (ex_move rfl) ?_
      refine nO23 ?_
      refine ops_no rfl ?_
      refine ops_no rfl ?_
      refine nO23 ?_
      refine ops_no rfl ?_
      refine ops_val (ex_pick_f rfl rfl) ?_
      refine ops_val (ex_assign rfl) ?_
      refine ops_nil ?_
      refine nR23 ?_
      refine run_ret ?_
      refine fin_ret1 rfl rfl ?_
      exact ⟨bf (by omega), H2.noRows⟩
  · have H2 := H1.callN Hd
    refine ops_val (ex_move rfl) ?_
    refine nO23 ?_
    refine ops_no rfl ?_
    refine ops_no rfl ?_
    refine nO23 ?_
    refine ops_no rfl ?_
    refine ops_no rfl ?_
    refine ops_val (ex_pick_f rfl rfl) ?_
    refine ops_val (ex_move rfl) ?_
    refine nO23 ?_
    refine ops_no rfl ?_
    refine ops_no rfl ?_
    refine nO23 ?_
    refine ops_no rfl ?_
    refine ops_no rfl ?_
    refine ops_val (ex_pick_f rfl rfl) ?_
    refine ops_val (ex_move rfl) ?_
    refine nO23 ?_
    refine ops_no rfl ?_
    refine ops_no rfl ?_
    refine nO23 ?_
    refine ops_no rfl ?_
    refine ops_val (ex_pick_f rfl rfl) ?_
    refine ops_val (ex_assign rfl) ?_
    refine ops_nil ?_
    refine nR23 ?_
    refine run_ret ?_
    refine fin_ret1 rfl rfl ?_
    exact ⟨bf (by omega), H2.noRows⟩
end Go.Proofs.YtjoeklkmnfaabaaGreat
/- Walks of layer 2, printed by wip/gen/codec.py. -/
namespace Go.Proofs.YtjoeklkmnfaabaaGreat
open Go Go.RowKit
set_option linter.unusedVariables false
attribute [local irreducible] Still Ops Does Cd
set_option maxRecDepth 100000 in
set_option maxHeartbeats 4000000 in
theorem last_v (gs : Nat) (c0 c1 c2 c4 : Value) (x : Int) (A3 : Option Addr) (m k3 : Nat) (w0 : World) (hrow : w0.heap[gs]? = some (.cells [c0, c1, c2, .int .i64 x, c4, .slice A3 m k3].toArray 97 (0, 0))) (hx : -1000000000000000000 ≤ x ∧ x ≤ 1000000000000000000) (hm : m ≤ 1000000000000000000) :
    Does Tryz.prog 163 #[.pointer (some ⟨gs, 0, none⟩)] w0 (fun r w' => r = .int .i64 (x + m) ∧ Hp w0 w' [] []) := by
  refine does_of Tryz.func163 Tryz.ntmps163 rfl ?_
  refine nR13 ?_
  have H := Hp.refl w0
  refine run_seq ?_
  refine run_region ?_
  refine ops_val (ex_assign rfl) ?_
  refine ops_nil ?_
  refine nR13 ?_
  refine run_seq ?_
  refine run_mixZ 10 [(true, 0), (true, 1), (true, 2), (true, 3), (true, 4), (true, 5), (true, 6), (true, 7), (true, 8), (true, 9), (false, 10)] H [] mixed (by decide) (by kernel_rfl) ?_
  rintro w1 hw1
  have H1 := Hp.drew H; rw [← hw1] at H1
  refine mixz_p rfl ?_
  refine mix1_val (fun wz hz => ex_move rfl) ?_
  refine mixz_p rfl ?_
  refine mix1_val (fun wz hz => ex_nilCheck rfl) ?_
  refine mixz_p rfl ?_
  refine mix1_val (fun wz hz => ex_fieldAddr fl97_2 rfl) ?_
  refine mixz_p rfl ?_
  refine mix1_val (fun wz hz => ex_load ty3 rfl (cell_at (hz.keep hrow (by simp)) rfl)) ?_
  refine nZ13 ?_
  refine mixz_p rfl ?_
  refine mix1_val (fun wz hz => ex_move rfl) ?_
  refine mixz_p rfl ?_
  refine mix1_val (fun wz hz => ex_nilCheck rfl) ?_
  refine mixz_p rfl ?_
  refine mix1_val (fun wz hz => ex_fieldAddr fl97_4 rfl) ?_
  refine mixz_p rfl ?_
  refine mix1_val (fun wz hz => ex_load ty95 rfl (cell_at (hz.keep hrow (by simp)) rfl)) ?_
  refine nZ13 ?_
  refine mixz_p rfl ?_
  refine mix1_val (fun wz hz => ex_len_slice Tryz.underlying95 rfl) ?_
  refine mixz_p rfl ?_
  refine mix1_val (fun wz hz => ex_add rfl rfl (IntWalk.i64_in _ (by omega))) ?_
  refine mixz_o rfl ?_
  refine ops_val (ex_assign rfl) ?_
  refine ops_nil ?_
  refine ⟨fun hne => absurd rfl hne, ?_⟩
  refine nZ13 ?_
  refine mixz_nil ?_
  refine nR13 ?_
  refine run_ret ?_
  refine fin_ret1 rfl rfl ?_
  exact ⟨rfl, H1.noRows⟩
set_option maxRecDepth 100000 in
set_option maxHeartbeats 4000000 in
theorem promise_v (gs : Nat) (p : Bal) (c2 c3 c4 c5 : Value) (n : Nt) (B1 : Option Addr) (j1 : Nat) (B2 : Option Addr) (j2 : Nat) (w0 : World) (hrow : w0.heap[gs]? = some (.cells [.int .i64 p.r, .int .i64 p.n, c2, c3, c4, c5].toArray 97 (0, 0))) :
    Does Tryz.prog 116 #[.pointer (some ⟨gs, 0, none⟩), .agg [.int .i64 n.kind, .int .i64 n.group, .int .i64 n.b.r, .int .i64 n.b.n, .int .i64 n.vote.slot, .int .i64 n.vote.b.r, .int .i64 n.vote.b.n, .slice B1 n.vote.val.length j1, .int .i64 n.entry.slot, .slice B2 n.entry.val.length j2, .int .i64 n.right.g, strV n.right.key, .int .i64 n.right.lease, .int .i64 n.right.net, .int .i64 n.client, .int .i64 n.seq].toArray] w0 (fun _ w' => Hp w0 w' [gs] [((some gs, 97, [.int .i64 (rz p n.b).r, .int .i64 (rz p n.b).n, c2, c3, c4, c5]) : Ent)]) := by
  refine does_of Tryz.func116 Tryz.ntmps116 rfl ?_
  refine nR16 ?_
  have H := Hp.old hrow
  refine run_seq ?_
  refine run_region ?_
  refine ops_box rfl rfl H ?_
  intro w1 g1 H1 hg1
  refine ops_nil ?_
  refine nR16 ?_
  refine run_seq ?_
  refine run_mixZ 6 [(true, 0), (true, 1), (true, 2), (true, 3), (true, 4), (true, 5), (false, 6)] H1 [0, 1] mixed (by decide) (by kernel_rfl) ?_
  rintro w2 hw2
  have H2 := Hp.drew H1; rw [← hw2] at H2
  refine mixz_p rfl ?_
  refine mix1_val (fun wz hz => ex_move rfl) ?_
  refine mixz_p rfl ?_
  refine mix1_val (fun wz hz => ex_nilCheck rfl) ?_
  refine mixz_p rfl ?_
  refine mix1_val (fun wz hz => ex_fieldAddr fl97_0 rfl) ?_
  refine mixz_p rfl ?_
  refine mix1_val (fun wz hz => ex_loadN ty75 rfl (vs := [.int .i64 p.r, .int .i64 p.n]) rfl (hz.cellsR (i := 0) rfl rfl)) ?_
  refine nZ16 ?_
  refine mixz_p rfl ?_
  refine mix1_val (fun wz hz => ex_fieldAddr fl81_2 rfl) ?_
  refine mixz_p rfl ?_
  refine mix1_val (fun wz hz => ex_loadN ty75 rfl (vs := [.int .i64 n.b.r, .int .i64 n.b.n]) rfl (hz.cellsR (i := 1) rfl rfl)) ?_
  refine mixz_o rfl ?_
  refine ops_call_test (ex_call gf162 rfl) (less_b _ _ _) (fun hp10 w3 Hd => ?_) (fun hp10 w3 Hd => ?_)
  · have H3 := H2.callN Hd
    refine ops_nil ?_
    refine ⟨fun hne => absurd rfl hne, ?_⟩
    refine mixz_nil ?_
    refine nR16 ?_
    refine run_cond_true rfl ?_
    refine run_region ?_
    refine ops_val (ex_move rfl) ?_
    refine ops_val (ex_fieldAddr fl81_2 rfl) ?_
    refine ops_val (ex_loadN ty75 rfl (vs := [.int .i64 n.b.r, .int .i64 n.b.n]) rfl (H3.cellsR (i := 1) rfl rfl)) ?_
    refine ops_val (ex_nilCheck rfl) ?_
    refine nO16 ?_
    refine ops_val (ex_fieldAddr fl97_0 rfl) ?_
    refine ops_store ty75 H3 0 rfl rfl rfl rfl rfl (by first | decide | (simp; done) | simp [putAt]) rfl ?_
    intro w4 H4
    refine ops_nil ?_
    refine nR16 ?_
    refine run_nil ?_
    refine fin_end0 rfl ?_
    unfold rz
    rw [if_pos hp10]
    exact H4.pick [0] (by decide)
  · have H3 := H2.callN Hd
    refine ops_nil ?_
    refine ⟨fun hne => absurd rfl hne, ?_⟩
    refine mixz_nil ?_
    refine nR16 ?_
    refine run_cond_false rfl ?_
    refine run_skip ?_
    refine run_nil ?_
    refine fin_end0 rfl ?_
    unfold rz
    rw [if_neg hp10]
    exact H3.pick [0] (by decide)
set_option maxRecDepth 100000 in
set_option maxHeartbeats 4000000 in
theorem behind_v (A : Option Addr) (k : Nat) (l : List Vt) (n : Int) (ok : Nat → Prop) (w0 : World) (hl : Sl (VtR w0 ok) 4 w0 ok A l) (hn : l.length ≤ 1099511627776) :
    Does Tryz.prog 167 #[.slice A l.length k, .int .i64 n] w0 (fun r w' => ∃ A' k', r = .slice A' (behind l n).length k' ∧ Sl (VtR w' (up ok w0.heap.size)) 4 w' (up ok w0.heap.size) A' (behind l n) ∧ Hp w0 w' [] []) := by
  refine does_of Tryz.func167 Tryz.ntmps167 rfl ?_
  change Run _ _ _ _ [.slice A l.length k, .int .i64 n, undef, undef, undef, undef, undef, undef, undef] _
  have H := Hp.refl w0
  obtain ⟨ps, hp, hr, ha, h2⟩ := hl
  have hlen := h2.len
  have hon := h2.ones fun _ _ h => h.ones
  refine run_seq ?_
  refine run_region ?_
  refine ops_box rfl rfl H ?_
  intro w1 gc H1 hgc
  refine ops_val (ex_assign rfl) ?_
  refine ops_nil ?_
  change Run _ _ _ _ [_, _, _, _, _, _, _, _, _] _
  refine run_seq ?_
  refine run_region ?_
  refine ops_val (ex_move rfl) ?_
  refine ops_call (ex_call gf87 rfl) (cloneV A l.length k ps.flatten _ (hr.to0 H1) (ones_flatten hon) (by omega)) ?_
  rintro _ w2 ⟨g, cap, sp, rfl, hgn, hcz, hg0, Hc⟩
  have hgf := row_new (ok := ok) Hc (i := 0) rfl (fun _ h => by cases h)
  have hsz1 := H1.size
  have H2 := H1.call0 Hc
  refine ops_val (ex_makeFunc rfl rfl) ?_
  have hgcx := H2.at (i := 0) rfl
  refine ops_call (ex_call gf194 rfl) (deleteV g cap l.length ps hlen sp 195 gc (vtLe n) _ (H2.pick [1] (by decide)).here hp hon (by omega) (by omega) hcz (prd_behind h2 hgcx rfl) (row_not H2 (i := 0) (is := [1]) rfl (by decide))) ?_
  rintro _ w3 ⟨sp2, rfl, hl2, Hd⟩
  have H3 := H2.callr [1] rfl Hd
  change Ops _ _ _ _ _ _ [_, _, _, _, _, _, _, _, _] _
  refine ops_val (ex_assign rfl) ?_
  refine ops_nil ?_
  change Run _ _ _ _ [_, _, _, _, _, _, _, _, _] _
  refine run_ret ?_
  refine fin_ret1 rfl rfl ?_
  have hf := h2.filter (f := fun p => !vtLe n p) (g := fun x => !decide (x.slot ≤ n)) fun p x h => by rw [vtLe_eq h]
  rw [behind_eq] at hf
  rw [hf.len]
  refine ⟨_, cap, rfl, Sl.row H3 (i := 2) rfl (hp.sub fun x hx => (List.mem_filter.1 hx).1) (by decide) (hf.imp fun p x h => h.to H3 up_k0) (fun b hb => ?_), H3.noRows⟩
  rcases hgf b hb with h | h
  · exact .inl h
  · exact .inr (by omega)
set_option maxRecDepth 100000 in
set_option maxHeartbeats 16000000 in
theorem vote_v (gs : Nat) (s : Sv) (A1 : Option Addr) (k1 : Nat) (A2 : Option Addr) (k2 : Nat) (A3 : Option Addr) (k3 : Nat) (n : Nt) (B1 : Option Addr) (j1 : Nat) (B2 : Option Addr) (j2 : Nat) (okn : Nat → Prop) (w0 : World) (hrow : w0.heap[gs]? = some (.cells [.int .i64 s.p.r, .int .i64 s.p.n, .slice A1 s.votes.length k1, .int .i64 s.index, .slice A2 s.image.length k2, .slice A3 s.entries.length k3].toArray 97 (0, 0))) (ok : Nat → Prop) (hok : ¬ ok gs) (hv1 : Sl (VtR w0 ok) 4 w0 ok A1 s.votes) (hv2 : Bs w0 ok A2 s.image) (hv3 : Sl (EnR w0 ok) 2 w0 ok A3 s.entries) (hokn : ¬ okn gs) (hb : Bs w0 okn B1 n.vote.val) (hrise : Rise (fun x : Vt => cmpI x.slot n.vote.slot) s.votes) (hvl : s.votes.length ≤ 1000) (hi : 0 ≤ s.index ∧ s.index ≤ 1099511627776) (he : s.entries.length ≤ 1099511627776) :
    Does Tryz.prog 117 #[.pointer (some ⟨gs, 0, none⟩), .agg [.int .i64 n.kind, .int .i64 n.group, .int .i64 n.b.r, .int .i64 n.b.n, .int .i64 n.vote.slot, .int .i64 n.vote.b.r, .int .i64 n.vote.b.n, .slice B1 n.vote.val.length j1, .int .i64 n.entry.slot, .slice B2 n.entry.val.length j2, .int .i64 n.right.g, strV n.right.key, .int .i64 n.right.lease, .int .i64 n.right.net, .int .i64 n.client, .int .i64 n.seq].toArray] w0 (fun _ w' => ∃ cs', Hp w0 w' [gs] [((some gs, 97, cs') : Ent)] ∧ SvR w' (up ok w0.heap.size) cs' (if n.vote.slot ≤ s.last then s else ({ s with votes := putVt s.votes n.vote } : Sv).raise n.vote.b)) := by
  refine does_of Tryz.func117 Tryz.ntmps117 rfl ?_
  refine nR53 ?_
  have H := Hp.old hrow
  have hks := up_k (n := w0.heap.size) (ok := ok) (S := [gs]) fun x hx hg => hok (by rw [← List.mem_singleton.1 hg]; exact hx)
  have hkn : ∀ x, okn x → x < w0.heap.size → x ∉ [gs] ∧ okn x := fun x hx _ => ⟨fun hg => hokn (by rw [← List.mem_singleton.1 hg]; exact hx), hx⟩
  obtain ⟨ps, hp, hr, ha, h2⟩ := id hv1
  have hlen := h2.len
  have hon := h2.ones fun _ _ h => h.ones
  refine run_seq ?_
  refine run_region ?_
  refine ops_box rfl rfl H ?_
  intro w1 g1 H1 hg1
  refine ops_nil ?_
  refine nR53 ?_
  refine run_seq ?_
  refine run_region ?_
  refine ops_val (ex_fieldAddr fl81_3 rfl) ?_
  refine ops_val (ex_loadN ty77 rfl (vs := [.int .i64 n.vote.slot, .int .i64 n.vote.b.r, .int .i64 n.vote.b.n, .slice B1 n.vote.val.length j1]) rfl (H1.cellsR (i := 1) rfl rfl)) ?_
  refine ops_alloc ty77 H1 ?_
  intro w2 g2 H2 hg2
  refine ops_store ty77 H2 2 rfl rfl rfl rfl rfl (by first | decide | (simp; done) | simp [putAt]) rfl ?_
  intro w3 H3
  refine ops_nil ?_
  refine nR53 ?_
  refine run_seq ?_
  refine run_seq ?_
  refine run_mixZ 4 [(true, 0), (true, 1), (true, 2), (false, 3), (false, 4)] H3 [0, 1, 2] mixed (by decide) (by kernel_rfl) ?_
  rintro w4 hw4
  have H4 := Hp.drew H3; rw [← hw4] at H4
  refine mixz_p rfl ?_
  refine mix1_val (fun wz hz => ex_fieldAddr fl77_0 rfl) ?_
  refine mixz_p rfl ?_
  refine mix1_val (fun wz hz => ex_load ty3 rfl (hz.cell (i := 2) rfl rfl)) ?_
  refine mixz_p rfl ?_
  refine mix1_val (fun wz hz => ex_move rfl) ?_
  refine mixz_o rfl ?_
  refine ops_call_val (ex_call gf163 rfl) (last_v gs _ _ _ _ s.index A3 s.entries.length k3 _ (H4.at (i := 0) rfl) ⟨by omega, by omega⟩ (by omega)) ?_
  intro w5 Hd
  have H5 := H4.callN Hd
  refine ops_nil ?_
  refine ⟨fun hne => H5.pick [0, 1, 2] (by decide), ?_⟩
  refine nZ53 ?_
  refine mixz_o rfl ?_
  refine ops_test (ex_leq rfl rfl) (fun hp14 => ?_) (fun hp14 => ?_)
  · skip
    refine ops_nil ?_
    refine ⟨fun hne => absurd rfl hne, ?_⟩
    refine mixz_nil ?_
    refine nR53 ?_
    refine run_cond_true rfl ?_
    refine run_ret ?_
    refine fin_ret0 rfl ?_
    rw [if_pos (by unfold Sv.last; exact hp14)]
    exact ⟨_, H5.pick [0] (by decide), A1, k1, A2, k2, A3, k3, rfl, hv1.toV H5 hks, hv2.to H5 hks, hv3.toE H5 hks⟩
  · skip
    refine ops_nil ?_
    refine ⟨fun hne => absurd rfl hne, ?_⟩
    refine mixz_nil ?_
    refine nR53 ?_
    refine run_cond_false rfl ?_
    refine run_skip ?_
    refine run_seq ?_
    refine run_region ?_
    refine ops_val (ex_fieldAddr fl77_2 rfl) ?_
    refine ops_val (ex_load ty73 rfl (H5.cell (i := 2) rfl rfl)) ?_
    refine ops_call_own (ex_call gf62 rfl) (clone_any B1 n.vote.val j1 _ (hb.to H5 hkn).1 (by have := hb.2.2; omega)) ?_
    intro w6 gb cb sb hmb hcb hgb Hc
    have H6 := H5.call0 Hc
    refine ops_val (ex_fieldAddr fl77_2 rfl) ?_
    refine nO53 ?_
    refine ops_store1 ty73 H6 2 rfl rfl rfl rfl (by first | decide | (simp; done) | simp [putAt]) rfl ?_
    intro w7 H7
    refine ops_nil ?_
    refine nR53 ?_
    refine run_seq ?_
    refine run_mixZ 11 [(true, 0), (true, 1), (true, 2), (true, 3), (true, 4), (true, 5), (false, 6), (true, 7), (true, 8), (true, 9), (true, 10), (false, 11)] H7 [0, 1, 2, 3] mixed (by decide) (by kernel_rfl) ?_
    rintro w8 hw8
    have H8 := Hp.drew H7; rw [← hw8] at H8
    refine mixz_p rfl ?_
    refine mix1_val (fun wz hz => ex_move rfl) ?_
    refine mixz_p rfl ?_
    refine mix1_val (fun wz hz => ex_nilCheck rfl) ?_
    refine mixz_p rfl ?_
    refine mix1_val (fun wz hz => ex_fieldAddr fl97_1 rfl) ?_
    refine mixz_p rfl ?_
    refine mix1_val (fun wz hz => ex_load ty94 rfl (hz.cell (i := 0) rfl rfl)) ?_
    refine nZ53 ?_
    refine mixz_p rfl ?_
    refine mix1_val (fun wz hz => ex_fieldAddr fl77_0 rfl) ?_
    refine mixz_p rfl ?_
    refine mix1_val (fun wz hz => ex_load ty3 rfl (hz.cell (i := 2) rfl rfl)) ?_
    refine mixz_o rfl ?_
    refine ops_call (ex_call gf164 rfl) (bsearchV A1 k1 ps s.votes.length hlen 165 n.vote.slot (vtCf n.vote.slot) _ hp (by rw [hlen]; exact (hr.move (by decide) ha H8 hks).1) (by omega) (cmp_vote h2 hrise)) ?_
    rintro _ w9 ⟨i, f, rfl, hfd, Hd⟩
    have H9 := H8.callN Hd
    refine ops_nil ?_
    refine ⟨fun hne => H9.pick [0, 1, 2, 3] (by decide), ?_⟩
    refine nZ53 ?_
    refine mixz_p rfl ?_
    refine mix1_val (fun wz hz => ex_move rfl) ?_
    refine mixz_p rfl ?_
    refine mix1_val (fun wz hz => ex_extract rfl rfl) ?_
    refine mixz_p rfl ?_
    refine mix1_val (fun wz hz => ex_extract rfl rfl) ?_
    refine mixz_p rfl ?_
    refine mix1_val (fun wz hz => ex_assign rfl) ?_
    refine nZ53 ?_
    refine mixz_o rfl ?_
    refine ops_val (ex_assign rfl) ?_
    refine ops_nil ?_
    refine ⟨fun hne => absurd rfl hne, ?_⟩
    refine nZ53 ?_
    refine mixz_nil ?_
    refine nR53 ?_
    refine run_seq ?_
    refine run_region ?_
    refine ops_val (ex_move rfl) ?_
    refine ops_val (ex_nilCheck rfl) ?_
    refine ops_val (ex_fieldAddr fl97_1 rfl) ?_
    refine ops_val (ex_load ty94 rfl (H9.cell (i := 0) rfl rfl)) ?_
    refine nO53 ?_
    refine ops_call (ex_call gf87 rfl) (cloneV A1 s.votes.length k1 ps.flatten _ (hr.move (by decide) ha H9 hks).1 (ones_flatten hon) (by omega)) ?_
    rintro _ w10 ⟨gv, cv, sv, rfl, hmv, hcv, hgv0, Hc⟩
    have H10 := H9.call0 Hc
    refine ops_val (ex_assign rfl) ?_
    refine ops_nil ?_
    refine nR53 ?_
    refine run_seq ?_
    refine run_seq ?_
    refine run_region ?_
    refine ops_val (ex_move rfl) ?_
    refine ops_nil ?_
    refine nR53 ?_
    refine run_cond rfl (fun hb34 => ?_) (fun hb34 => ?_)
    · obtain ⟨pi, hpi, _⟩ := hfd.yes hb34
      have hil := lt_of_get hpi
      obtain ⟨gw, rfl⟩ := own_some H10 (i := 4) rfl (by rw [List.length_append, hp.len]; omega)
      subst hb34
      refine run_region ?_
      refine ops_val (ex_move rfl) ?_
      refine ops_val (ex_move rfl) ?_
      refine ops_val (ex_loadN ty77 rfl (vs := [.int .i64 n.vote.slot, .int .i64 n.vote.b.r, .int .i64 n.vote.b.n, .slice (hd gb) n.vote.val.length cb]) rfl (H10.cellsR (i := 2) rfl rfl)) ?_
      refine ops_val (ex_idxN Tryz.underlying94 ty77 rfl rfl rfl (by omega)) ?_
      refine nO53 ?_
      refine ops_store ty77 H10 4 rfl rfl rfl rfl rfl (by rw [List.length_append, hp.len]; show 0 + i * 4 + 4 ≤ _; omega) rfl ?_
      intro w11 H11
      rw [store_elem (sz := 4) (vs := [.int .i64 n.vote.slot, .int .i64 n.vote.b.r, .int .i64 n.vote.b.n, .slice (hd gb) n.vote.val.length cb]) hp hil rfl] at H11
      replace H11 := H11.pick [0, 1, 2, 3, 4] (by decide)
      refine ops_nil ?_
      refine nR53 ?_
      refine run_seq ?_
      refine run_region ?_
      refine ops_val (ex_move rfl) ?_
      refine ops_val (ex_move rfl) ?_
      refine ops_val (ex_nilCheck rfl) ?_
      refine ops_val (ex_fieldAddr fl97_1 rfl) ?_
      refine nO53 ?_
      refine ops_store1 ty94 H11 0 rfl rfl rfl rfl (by simp) rfl ?_
      intro w12 H12
      refine ops_nil ?_
      refine nR53 ?_
      refine run_region ?_
      refine ops_val (ex_move rfl) ?_
      refine ops_val (ex_fieldAddr fl77_1 rfl) ?_
      refine ops_val (ex_loadN ty75 rfl (vs := [.int .i64 n.vote.b.r, .int .i64 n.vote.b.n]) rfl (H12.cellsR (i := 2) rfl rfl)) ?_
      refine ops_val (ex_build ty81 pl81 rfl rfl) ?_
      refine nO53 ?_
      refine ops_call (ex_call gf116 rfl) (promise_v gs s.p _ _ _ _ ⟨0, 0, n.vote.b, ⟨0, ⟨0, 0⟩, []⟩, ⟨0, []⟩, ⟨0, [], 0, 0⟩, 0, 0⟩ none 0 none 0 _ (H12.at (i := 0) rfl)) ?_
      rintro r w13 Hd
      have H13 := (H12.callr [0] rfl Hd).pick [5, 1, 2, 3, 4] (by decide)
      refine ops_nil ?_
      refine nR53 ?_
      refine run_nil ?_
      refine fin_end0 rfl ?_
      rw [if_neg (by unfold Sv.last; exact hp14)]
      have HZ := H13
      have hgb2 := row_new (ok := ok) HZ (i := 3) rfl (fun b hb => by rw [List.mem_singleton.1 hb]; exact fun e => HZ.ne (i := 3) (j := 0) (g := gs) (by rw [e]; rfl) rfl (by decide) rfl)
      have hgv2 := row_new (ok := ok) HZ (i := 4) rfl (fun b hb => by rw [List.mem_singleton.1 hb]; exact fun e => HZ.ne (i := 4) (j := 0) (g := gs) (by rw [e]; rfl) rfl (by decide) rfl)
      have hnew : VtR w13 (up ok w0.heap.size) [.int .i64 n.vote.slot, .int .i64 n.vote.b.r, .int .i64 n.vote.b.n, .slice (hd gb) n.vote.val.length cb] n.vote := ⟨hd gb, cb, rfl, Bs.row HZ (i := 3) rfl hb.2.2 hgb2⟩
      have hold := h2.imp (R' := VtR w13 (up ok w0.heap.size)) fun p x h => h.to HZ hks
      have hput := hfd.put (v := n.vote) h2 (fun p x h => vtCf_eq h) hrise
      rw [← putVt_eq] at hput
      rw [raise_eq, hput]
      rw [if_pos rfl]
      have hset := hold.set i hnew
      refine ⟨_, HZ.pick [0] (by decide), hd (some gw), cv, A2, k2, A3, k3, by rw [List.length_set], ?_, hv2.to HZ hks, hv3.toE HZ hks⟩
      exact Sl.row HZ (i := 4) rfl (hp.set_len rfl) (by decide) hset hgv2
    · subst hb34
      refine run_region ?_
      refine ops_val (ex_move rfl) ?_
      refine ops_val (ex_move rfl) ?_
      refine ops_val (ex_loadN ty77 rfl (vs := [.int .i64 n.vote.slot, .int .i64 n.vote.b.r, .int .i64 n.vote.b.n, .slice (hd gb) n.vote.val.length cb]) rfl (H10.cellsR (i := 2) rfl rfl)) ?_
      refine ops_buildSlice Tryz.underlying94 ty77 H10 rfl (by decide) rfl ?_
      intro w11 g11 H11 hg11
      refine nO53 ?_
      refine ops_call (ex_call gf166 rfl) (insertV gv cv i _ s.votes.length ps hlen [.int .i64 n.vote.slot, .int .i64 n.vote.b.r, .int .i64 n.vote.b.n, .slice (hd gb) n.vote.val.length cb] sv _ (H11.pick [4] (by decide)).here hp hon (by omega) hcv hgv0 hfd.le (H11.at (i := 5) rfl) rfl rfl (row_not H11 (i := 5) (is := [4]) rfl (by decide)) (by omega)) ?_
      rintro _ w12 ⟨gw, cw, sw, rfl, hnw, hcw, hgw, Hd⟩
      rw [hlen]
      have H12 := (H11.callr [4] rfl Hd).pick [0, 1, 2, 3, 6] (by decide)
      refine ops_val (ex_assign rfl) ?_
      refine ops_nil ?_
      refine nR53 ?_
      refine run_seq ?_
      refine run_region ?_
      refine ops_val (ex_move rfl) ?_
      refine ops_val (ex_move rfl) ?_
      refine ops_val (ex_nilCheck rfl) ?_
      refine ops_val (ex_fieldAddr fl97_1 rfl) ?_
      refine nO53 ?_
      refine ops_store1 ty94 H12 0 rfl rfl rfl rfl (by simp) rfl ?_
      intro w13 H13
      refine ops_nil ?_
      refine nR53 ?_
      refine run_region ?_
      refine ops_val (ex_move rfl) ?_
      refine ops_val (ex_fieldAddr fl77_1 rfl) ?_
      refine ops_val (ex_loadN ty75 rfl (vs := [.int .i64 n.vote.b.r, .int .i64 n.vote.b.n]) rfl (H13.cellsR (i := 2) rfl rfl)) ?_
      refine ops_val (ex_build ty81 pl81 rfl rfl) ?_
      refine nO53 ?_
      refine ops_call (ex_call gf116 rfl) (promise_v gs s.p _ _ _ _ ⟨0, 0, n.vote.b, ⟨0, ⟨0, 0⟩, []⟩, ⟨0, []⟩, ⟨0, [], 0, 0⟩, 0, 0⟩ none 0 none 0 _ (H13.at (i := 0) rfl)) ?_
      rintro r w14 Hd
      have H14 := (H13.callr [0] rfl Hd).pick [5, 1, 2, 3, 4] (by decide)
      refine ops_nil ?_
      refine nR53 ?_
      refine run_nil ?_
      refine fin_end0 rfl ?_
      rw [if_neg (by unfold Sv.last; exact hp14)]
      have HZ := H14
      have hgb2 := row_new (ok := ok) HZ (i := 3) rfl (fun b hb => by rw [List.mem_singleton.1 hb]; exact fun e => HZ.ne (i := 3) (j := 0) (g := gs) (by rw [e]; rfl) rfl (by decide) rfl)
      have hgv2 := row_new (ok := ok) HZ (i := 4) rfl (fun b hb => by rw [List.mem_singleton.1 hb]; exact fun e => HZ.ne (i := 4) (j := 0) (g := gs) (by rw [e]; rfl) rfl (by decide) rfl)
      have hnew : VtR w14 (up ok w0.heap.size) [.int .i64 n.vote.slot, .int .i64 n.vote.b.r, .int .i64 n.vote.b.n, .slice (hd gb) n.vote.val.length cb] n.vote := ⟨hd gb, cb, rfl, Bs.row HZ (i := 3) rfl hb.2.2 hgb2⟩
      have hold := h2.imp (R' := VtR w14 (up ok w0.heap.size)) fun p x h => h.to HZ hks
      have hput := hfd.put (v := n.vote) h2 (fun p x h => vtCf_eq h) hrise
      rw [← putVt_eq] at hput
      rw [raise_eq, hput]
      rw [if_neg (by decide)]
      have hle := hfd.le
      have hil3 : (s.votes.take i ++ n.vote :: s.votes.drop i).length = s.votes.length + 1 := by rw [List.length_append, List.length_cons, List.length_take, List.length_drop]; omega
      refine ⟨_, HZ.pick [0] (by decide), hd gw, cw, A2, k2, A3, k3, by rw [hil3], ?_, hv2.to HZ hks, hv3.toE HZ hks⟩
      exact Sl.row HZ (i := 4) rfl ((hp.sub fun x hx => List.mem_of_mem_take hx).app fun x hx => by
        rcases List.mem_cons.1 hx with rfl | hx
        · rfl
        · exact hp x (List.mem_of_mem_drop hx)) (by decide) ((hold.take i).app ⟨hnew, hold.drop i⟩) hgv2
end Go.Proofs.YtjoeklkmnfaabaaGreat
