/- Walks of layer 2, printed by wip/gen/codec.py. -/
import Derived.Test.YtbninklfoogmdaaNrm
import Derived.Test.YtbninklfoogmdaaVaB
namespace Go.Proofs.Ytbninklfoogmdaa
open Go Go.RowKit
set_option linter.unusedVariables false
attribute [local irreducible] Still Ops Does Cd
set_option maxRecDepth 100000 in
set_option maxHeartbeats 4000000 in
theorem bsearchV (A : Option Addr) (c : Nat) (ps : List (List Value)) (n : Nat) (hn : ps.length = n) (k : FuncId) (tn : Int) (cf : List Value → Int) (w0 : World) (hp : Pl 4 ps) (hr : Rd w0 A ps.length 4 ps.flatten) (hl : ps.length ≤ 4611686018427387903) (hC : Cmp Try.prog k (.int .i64 tn) cf ps) :
    Does Try.prog 38 #[.slice A n c, .int .i64 tn, .func (.func k) #[] #[]] w0 (fun r w' => ∃ (i : Nat) (f : Bool), r = .tuple #[.int .i64 (i : Int), .bool f] ∧ Found ps cf i f ∧ Hp w0 w' [] []) := by
  refine does_of Try.func38 Try.ntmps38 rfl ?_
  refine nR49 ?_
  subst hn
  have H := Hp.refl w0
  have hn := hr.len
  refine run_seq ?_
  refine run_region ?_
  refine ops_val (ex_assign rfl) ?_
  refine ops_val (ex_assign rfl) ?_
  refine ops_nil ?_
  refine nR49 ?_
  refine run_seq ?_
  refine run_region ?_
  refine ops_val (ex_move rfl) ?_
  refine ops_val (ex_len_slice Try.underlying35 rfl) ?_
  refine ops_val (ex_assign rfl) ?_
  refine ops_nil ?_
  refine nR49 ?_
  refine run_seq ?_
  refine run_region ?_
  refine ops_val (ex_move rfl) ?_
  refine ops_val (ex_assign rfl) ?_
  refine ops_val (ex_assign rfl) ?_
  refine ops_nil ?_
  refine nR49 ?_
  refine run_seq ?_
  refine run_block ?_
  refine run_loop (fun nQ lQ w => ∃ (i m : Nat) (y z : Int), m - i = nQ ∧ Fits [some (.slice A ps.length c), some (.int .i64 tn), some (.func (.func k) #[] #[]), none, none, none, none, none, some (.int .i64 (ps.length : Int)), some (.int .i64 y), some (.int .i64 z), none, none, none, none, none, none, none, none, none, none, none, none, none, none, none, none, none, none, none, none, none, none, none, none, none, none, none, none, none, none, none, none, none, none, none, none, none, none] lQ ∧ y = (i : Int) ∧ z = (m : Int) ∧ i ≤ m ∧ m ≤ ps.length ∧ (∀ (k : Nat) (p : List Value), k < i → ps[k]? = some p → cf p < 0) ∧ (∀ (k : Nat) (p : List Value), m ≤ k → ps[k]? = some p → 0 ≤ cf p) ∧ Hp w0 w [] []) (ps.length - 0) ?_ ?_
  · exact ⟨0, ps.length, _, _, rfl, (fs (fs (fs (fn (fn (fn (fn (fn (fs (fs (fs (fn (fn (fn (fn (fn (fn (fn (fn (fn (fn (fn (fn (fn (fn (fn (fn (fn (fn (fn (fn (fn (fn (fn (fn (fn (fn (fn (fn (fn (fn (fn (fn (fn (fn (fn (fn (fn (fn f0))))))))))))))))))))))))))))))))))))))))))))))))), rfl, rfl, Nat.zero_le _, Nat.le_refl _, fun k p hk => by omega, fun k p hk hkp => by have := lt_of_get hkp; omega, H⟩
  · rintro nQ lQ w1 ⟨i, m, y, z, rfl, hfit, rfl, rfl, him, hmn, hlo, hhi, H1⟩
    obtain ⟨j, rfl⟩ := hfit.open
    refine nR49 ?_
    clear hfit
    refine run_seq ?_
    refine run_seq ?_
    refine run_region ?_
    refine ops_val (ex_move rfl) ?_
    refine ops_val (ex_move rfl) ?_
    refine ops_test (ex_lss rfl rfl) (fun hp17 => ?_) (fun hp17 => ?_)
    · obtain ⟨p1, hp1⟩ := get_of (l := ps) (j := (i + m) / 2) (by omega)
      have hql := lt_of_get hp1
      obtain ⟨a1, ha1⟩ := hr.some_ (by omega)
      subst ha1
      refine ops_nil ?_
      refine nR49 ?_
      refine run_cond_true rfl ?_
      refine run_skip ?_
      refine run_block ?_
      refine run_seq ?_
      refine run_region ?_
      refine ops_val (ex_move rfl) ?_
      refine ops_val (ex_move rfl) ?_
      refine ops_val (ex_add rfl rfl ((IntWalk.i64_in _ (by omega)).trans (show (i : Int) + (m : Int) = ((i + m : Nat) : Int) by omega))) ?_
      refine ops_val (ex_conv Try.underlying99 Try.underlying3 rfl ((show IntKind.u64.wrap ((i + m : Nat) : Int) = ((i + m : Nat) : Int) by rw [IntKind.wrap_u64]; omega))) ?_
      refine nO49 ?_
      refine ops_val (ex_shr rfl rfl (by omega) (show (((i + m : Nat) : Int)).fdiv (2 ^ (min (1 : Int).toNat IntKind.u64.bits)) = (((i + m) / 2 : Nat) : Int) from shr_nat (i + m) 1 64)) ?_
      refine ops_val (ex_conv Try.underlying3 Try.underlying99 rfl (IntWalk.i64_in _ (by omega))) ?_
      refine ops_val (ex_assign rfl) ?_
      refine ops_nil ?_
      refine nR49 ?_
      refine run_seq ?_
      refine run_region ?_
      refine ops_val (ex_move rfl) ?_
      refine ops_val (ex_move rfl) ?_
      refine ops_val (ex_move rfl) ?_
      refine ops_val (ex_idx Try.underlying35 ty41 rfl rfl rfl hql rfl) ?_
      refine nO49 ?_
      refine ops_val (ex_loadN ty41 rfl (vs := p1) (hp.at hp1) ((hr.to0 H1).elem hp hp1)) ?_
      refine ops_val (ex_move rfl) ?_
      refine ops_call_val (ex_call_val hC.go rfl rfl) (hC.does w1 p1 (mem_of hp1)) ?_
      intro w2 Hd
      have H2 := H1.callN Hd
      refine ops_test (ex_lss rfl rfl) (fun hp31 => ?_) (fun hp31 => ?_)
      · skip
        refine ops_nil ?_
        refine nR49 ?_
        refine run_cond_true rfl ?_
        refine run_region ?_
        refine ops_val (ex_move rfl) ?_
        refine ops_val (ex_add rfl rfl (IntWalk.i64_in _ (by omega))) ?_
        refine ops_val (ex_assign rfl) ?_
        refine ops_nil ?_
        refine nR49 ?_
        refine run_nil (blk_normal ?_)
        refine run_nil (rnd_normal ?_)
        exact ⟨m - ((i + m) / 2 + 1), by omega, (i + m) / 2 + 1, m, _, _, rfl, (fs (fs (fs (fn (fn (fn (fn (fn (fs (fs (fs (fn (fn (fn (fn (fn (fn (fn (fn (fn (fn (fn (fn (fn (fn (fn (fn (fn (fn (fn (fn (fn (fn (fn (fn (fn (fn (fn (fn (fn (fn (fn (fn (fn (fn (fn (fn (fn (fn f0))))))))))))))))))))))))))))))))))))))))))))))))), by omega, rfl, by omega, by omega, fun k p hk hkp => hC.mono k _ p p1 (by omega) hkp hp1 hp31, hhi, H2⟩
      · skip
        refine ops_nil ?_
        refine nR49 ?_
        refine run_cond_false rfl ?_
        refine run_region ?_
        refine ops_val (ex_move rfl) ?_
        refine ops_val (ex_assign rfl) ?_
        refine ops_nil ?_
        refine nR49 ?_
        refine run_nil (blk_normal ?_)
        refine run_nil (rnd_normal ?_)
        exact ⟨(i + m) / 2 - i, by omega, i, (i + m) / 2, _, _, rfl, (fs (fs (fs (fn (fn (fn (fn (fn (fs (fs (fs (fn (fn (fn (fn (fn (fn (fn (fn (fn (fn (fn (fn (fn (fn (fn (fn (fn (fn (fn (fn (fn (fn (fn (fn (fn (fn (fn (fn (fn (fn (fn (fn (fn (fn (fn (fn (fn (fn f0))))))))))))))))))))))))))))))))))))))))))))))))), rfl, rfl, by omega, by omega, hlo, fun k p hk hkp => by
          rcases Int.lt_or_le (cf p) 0 with h | h
          · exact absurd (hC.mono _ k p1 p (by omega) hp1 hkp h) hp31
          · exact h, H2⟩
    · obtain rfl : i = m := by omega
      refine ops_nil ?_
      refine nR49 ?_
      refine run_cond_false rfl ?_
      refine run_exit ?_
      refine rnd_exit ?_
      refine blk_exit ?_
      refine run_seq ?_
      refine run_region ?_
      refine ops_val (ex_move rfl) ?_
      refine ops_val (ex_move rfl) ?_
      refine ops_val (ex_move rfl) ?_
      refine ops_test (ex_lss rfl rfl) (fun hp38 => ?_) (fun hp38 => ?_)
      · obtain ⟨p1, hp1⟩ := get_of (l := ps) (j := i) (by omega)
        have hql := lt_of_get hp1
        obtain ⟨a1, ha1⟩ := hr.some_ (by omega)
        subst ha1
        refine ops_val (ex_move rfl) ?_
        refine nO49 ?_
        refine ops_yes rfl ?_
        refine ops_val (ex_move rfl) ?_
        refine ops_yes rfl ?_
        refine ops_val (ex_move rfl) ?_
        refine nO49 ?_
        refine ops_yes rfl ?_
        refine ops_val (ex_move rfl) ?_
        refine ops_yes rfl ?_
        refine ops_val (ex_idx Try.underlying35 ty41 rfl rfl rfl hql rfl) ?_
        refine nO49 ?_
        refine ops_yes rfl ?_
        refine ops_val (ex_loadN ty41 rfl (vs := p1) (hp.at hp1) ((hr.to0 H1).elem hp hp1)) ?_
        refine ops_yes rfl ?_
        refine ops_val (ex_move rfl) ?_
        refine nO49 ?_
        refine ops_yes rfl ?_
        refine ops_call_val (ex_call_val hC.go rfl rfl) (hC.does w1 p1 (mem_of hp1)) ?_
        intro w2 Hd
        have H2 := H1.callN Hd
        refine ops_yes rfl ?_
        refine ops_test (ex_eql rfl rfl) (fun hp47 => ?_) (fun hp47 => ?_)
        · skip
          refine ops_val (ex_pick_t rfl rfl) ?_
          refine ops_val (ex_assign rfl) ?_
          refine ops_val (ex_assign rfl) ?_
          refine ops_nil ?_
          refine nR49 ?_
          refine run_ret ?_
          refine fin_ret2 rfl rfl rfl ?_
          exact ⟨i, true, rfl, ⟨by omega, hlo, hhi, fun _ => ⟨p1, hp1, hp47⟩, fun h => by cases h⟩, H2.noRows⟩
        · skip
          refine ops_val (ex_pick_t rfl rfl) ?_
          refine ops_val (ex_assign rfl) ?_
          refine ops_val (ex_assign rfl) ?_
          refine ops_nil ?_
          refine nR49 ?_
          refine run_ret ?_
          refine fin_ret2 rfl rfl rfl ?_
          exact ⟨i, false, rfl, ⟨by omega, hlo, hhi, (fun h => by cases h), fun _ p h2 => by
            rw [hp1] at h2
            cases h2
            exact hp47⟩, H2.noRows⟩
      · skip
        refine ops_val (ex_move rfl) ?_
        refine nO49 ?_
        refine ops_no rfl ?_
        refine ops_no rfl ?_
        refine nO49 ?_
        refine ops_no rfl ?_
        refine ops_no rfl ?_
        refine nO49 ?_
        refine ops_no rfl ?_
        refine ops_no rfl ?_
        refine nO49 ?_
        refine ops_no rfl ?_
        refine ops_no rfl ?_
        refine ops_val (ex_pick_f rfl rfl) ?_
        refine ops_val (ex_assign rfl) ?_
        refine nO49 ?_
        refine ops_val (ex_assign rfl) ?_
        refine ops_nil ?_
        refine nR49 ?_
        refine run_ret ?_
        refine fin_ret2 rfl rfl rfl ?_
        exact ⟨i, false, rfl, ⟨by omega, hlo, hhi, (fun h => by cases h), fun _ p h2 => by have := lt_of_get h2; omega⟩, H1.noRows⟩
set_option maxRecDepth 100000 in
set_option maxHeartbeats 4000000 in
theorem bsearchM (A : Option Addr) (c : Nat) (ps : List (List Value)) (n : Nat) (hn : ps.length = n) (k : FuncId) (tn : Int) (cf : List Value → Int) (w0 : World) (hp : Pl 7 ps) (hr : Rd w0 A ps.length 7 ps.flatten) (hl : ps.length ≤ 4611686018427387903) (hC : Cmp Try.prog k (.int .i64 tn) cf ps) :
    Does Try.prog 52 #[.slice A n c, .int .i64 tn, .func (.func k) #[] #[]] w0 (fun r w' => ∃ (i : Nat) (f : Bool), r = .tuple #[.int .i64 (i : Int), .bool f] ∧ Found ps cf i f ∧ Hp w0 w' [] []) := by
  refine does_of Try.func52 Try.ntmps52 rfl ?_
  refine nR49 ?_
  subst hn
  have H := Hp.refl w0
  have hn := hr.len
  refine run_seq ?_
  refine run_region ?_
  refine ops_val (ex_assign rfl) ?_
  refine ops_val (ex_assign rfl) ?_
  refine ops_nil ?_
  refine nR49 ?_
  refine run_seq ?_
  refine run_region ?_
  refine ops_val (ex_move rfl) ?_
  refine ops_val (ex_len_slice Try.underlying26 rfl) ?_
  refine ops_val (ex_assign rfl) ?_
  refine ops_nil ?_
  refine nR49 ?_
  refine run_seq ?_
  refine run_region ?_
  refine ops_val (ex_move rfl) ?_
  refine ops_val (ex_assign rfl) ?_
  refine ops_val (ex_assign rfl) ?_
  refine ops_nil ?_
  refine nR49 ?_
  refine run_seq ?_
  refine run_block ?_
  refine run_loop (fun nQ lQ w => ∃ (i m : Nat) (y z : Int), m - i = nQ ∧ Fits [some (.slice A ps.length c), some (.int .i64 tn), some (.func (.func k) #[] #[]), none, none, none, none, none, some (.int .i64 (ps.length : Int)), some (.int .i64 y), some (.int .i64 z), none, none, none, none, none, none, none, none, none, none, none, none, none, none, none, none, none, none, none, none, none, none, none, none, none, none, none, none, none, none, none, none, none, none, none, none, none, none] lQ ∧ y = (i : Int) ∧ z = (m : Int) ∧ i ≤ m ∧ m ≤ ps.length ∧ (∀ (k : Nat) (p : List Value), k < i → ps[k]? = some p → cf p < 0) ∧ (∀ (k : Nat) (p : List Value), m ≤ k → ps[k]? = some p → 0 ≤ cf p) ∧ Hp w0 w [] []) (ps.length - 0) ?_ ?_
  · exact ⟨0, ps.length, _, _, rfl, (fs (fs (fs (fn (fn (fn (fn (fn (fs (fs (fs (fn (fn (fn (fn (fn (fn (fn (fn (fn (fn (fn (fn (fn (fn (fn (fn (fn (fn (fn (fn (fn (fn (fn (fn (fn (fn (fn (fn (fn (fn (fn (fn (fn (fn (fn (fn (fn (fn f0))))))))))))))))))))))))))))))))))))))))))))))))), rfl, rfl, Nat.zero_le _, Nat.le_refl _, fun k p hk => by omega, fun k p hk hkp => by have := lt_of_get hkp; omega, H⟩
  · rintro nQ lQ w1 ⟨i, m, y, z, rfl, hfit, rfl, rfl, him, hmn, hlo, hhi, H1⟩
    obtain ⟨j, rfl⟩ := hfit.open
    refine nR49 ?_
    clear hfit
    refine run_seq ?_
    refine run_seq ?_
    refine run_region ?_
    refine ops_val (ex_move rfl) ?_
    refine ops_val (ex_move rfl) ?_
    refine ops_test (ex_lss rfl rfl) (fun hp17 => ?_) (fun hp17 => ?_)
    · obtain ⟨p1, hp1⟩ := get_of (l := ps) (j := (i + m) / 2) (by omega)
      have hql := lt_of_get hp1
      obtain ⟨a1, ha1⟩ := hr.some_ (by omega)
      subst ha1
      refine ops_nil ?_
      refine nR49 ?_
      refine run_cond_true rfl ?_
      refine run_skip ?_
      refine run_block ?_
      refine run_seq ?_
      refine run_region ?_
      refine ops_val (ex_move rfl) ?_
      refine ops_val (ex_move rfl) ?_
      refine ops_val (ex_add rfl rfl ((IntWalk.i64_in _ (by omega)).trans (show (i : Int) + (m : Int) = ((i + m : Nat) : Int) by omega))) ?_
      refine ops_val (ex_conv Try.underlying99 Try.underlying3 rfl ((show IntKind.u64.wrap ((i + m : Nat) : Int) = ((i + m : Nat) : Int) by rw [IntKind.wrap_u64]; omega))) ?_
      refine nO49 ?_
      refine ops_val (ex_shr rfl rfl (by omega) (show (((i + m : Nat) : Int)).fdiv (2 ^ (min (1 : Int).toNat IntKind.u64.bits)) = (((i + m) / 2 : Nat) : Int) from shr_nat (i + m) 1 64)) ?_
      refine ops_val (ex_conv Try.underlying3 Try.underlying99 rfl (IntWalk.i64_in _ (by omega))) ?_
      refine ops_val (ex_assign rfl) ?_
      refine ops_nil ?_
      refine nR49 ?_
      refine run_seq ?_
      refine run_region ?_
      refine ops_val (ex_move rfl) ?_
      refine ops_val (ex_move rfl) ?_
      refine ops_val (ex_move rfl) ?_
      refine ops_val (ex_idx Try.underlying26 ty62 rfl rfl rfl hql rfl) ?_
      refine nO49 ?_
      refine ops_val (ex_loadN ty62 rfl (vs := p1) (hp.at hp1) ((hr.to0 H1).elem hp hp1)) ?_
      refine ops_val (ex_move rfl) ?_
      refine ops_call_val (ex_call_val hC.go rfl rfl) (hC.does w1 p1 (mem_of hp1)) ?_
      intro w2 Hd
      have H2 := H1.callN Hd
      refine ops_test (ex_lss rfl rfl) (fun hp31 => ?_) (fun hp31 => ?_)
      · skip
        refine ops_nil ?_
        refine nR49 ?_
        refine run_cond_true rfl ?_
        refine run_region ?_
        refine ops_val (ex_move rfl) ?_
        refine ops_val (ex_add rfl rfl (IntWalk.i64_in _ (by omega))) ?_
        refine ops_val (ex_assign rfl) ?_
        refine ops_nil ?_
        refine nR49 ?_
        refine run_nil (blk_normal ?_)
        refine run_nil (rnd_normal ?_)
        exact ⟨m - ((i + m) / 2 + 1), by omega, (i + m) / 2 + 1, m, _, _, rfl, (fs (fs (fs (fn (fn (fn (fn (fn (fs (fs (fs (fn (fn (fn (fn (fn (fn (fn (fn (fn (fn (fn (fn (fn (fn (fn (fn (fn (fn (fn (fn (fn (fn (fn (fn (fn (fn (fn (fn (fn (fn (fn (fn (fn (fn (fn (fn (fn (fn f0))))))))))))))))))))))))))))))))))))))))))))))))), by omega, rfl, by omega, by omega, fun k p hk hkp => hC.mono k _ p p1 (by omega) hkp hp1 hp31, hhi, H2⟩
      · skip
        refine ops_nil ?_
        refine nR49 ?_
        refine run_cond_false rfl ?_
        refine run_region ?_
        refine ops_val (ex_move rfl) ?_
        refine ops_val (ex_assign rfl) ?_
        refine ops_nil ?_
        refine nR49 ?_
        refine run_nil (blk_normal ?_)
        refine run_nil (rnd_normal ?_)
        exact ⟨(i + m) / 2 - i, by omega, i, (i + m) / 2, _, _, rfl, (fs (fs (fs (fn (fn (fn (fn (fn (fs (fs (fs (fn (fn (fn (fn (fn (fn (fn (fn (fn (fn (fn (fn (fn (fn (fn (fn (fn (fn (fn (fn (fn (fn (fn (fn (fn (fn (fn (fn (fn (fn (fn (fn (fn (fn (fn (fn (fn (fn f0))))))))))))))))))))))))))))))))))))))))))))))))), rfl, rfl, by omega, by omega, hlo, fun k p hk hkp => by
          rcases Int.lt_or_le (cf p) 0 with h | h
          · exact absurd (hC.mono _ k p1 p (by omega) hp1 hkp h) hp31
          · exact h, H2⟩
    · obtain rfl : i = m := by omega
      refine ops_nil ?_
      refine nR49 ?_
      refine run_cond_false rfl ?_
      refine run_exit ?_
      refine rnd_exit ?_
      refine blk_exit ?_
      refine run_seq ?_
      refine run_region ?_
      refine ops_val (ex_move rfl) ?_
      refine ops_val (ex_move rfl) ?_
      refine ops_val (ex_move rfl) ?_
      refine ops_test (ex_lss rfl rfl) (fun hp38 => ?_) (fun hp38 => ?_)
      · obtain ⟨p1, hp1⟩ := get_of (l := ps) (j := i) (by omega)
        have hql := lt_of_get hp1
        obtain ⟨a1, ha1⟩ := hr.some_ (by omega)
        subst ha1
        refine ops_val (ex_move rfl) ?_
        refine nO49 ?_
        refine ops_yes rfl ?_
        refine ops_val (ex_move rfl) ?_
        refine ops_yes rfl ?_
        refine ops_val (ex_move rfl) ?_
        refine nO49 ?_
        refine ops_yes rfl ?_
        refine ops_val (ex_move rfl) ?_
        refine ops_yes rfl ?_
        refine ops_val (ex_idx Try.underlying26 ty62 rfl rfl rfl hql rfl) ?_
        refine nO49 ?_
        refine ops_yes rfl ?_
        refine ops_val (ex_loadN ty62 rfl (vs := p1) (hp.at hp1) ((hr.to0 H1).elem hp hp1)) ?_
        refine ops_yes rfl ?_
        refine ops_val (ex_move rfl) ?_
        refine nO49 ?_
        refine ops_yes rfl ?_
        refine ops_call_val (ex_call_val hC.go rfl rfl) (hC.does w1 p1 (mem_of hp1)) ?_
        intro w2 Hd
        have H2 := H1.callN Hd
        refine ops_yes rfl ?_
        refine ops_test (ex_eql rfl rfl) (fun hp47 => ?_) (fun hp47 => ?_)
        · skip
          refine ops_val (ex_pick_t rfl rfl) ?_
          refine ops_val (ex_assign rfl) ?_
          refine ops_val (ex_assign rfl) ?_
          refine ops_nil ?_
          refine nR49 ?_
          refine run_ret ?_
          refine fin_ret2 rfl rfl rfl ?_
          exact ⟨i, true, rfl, ⟨by omega, hlo, hhi, fun _ => ⟨p1, hp1, hp47⟩, fun h => by cases h⟩, H2.noRows⟩
        · skip
          refine ops_val (ex_pick_t rfl rfl) ?_
          refine ops_val (ex_assign rfl) ?_
          refine ops_val (ex_assign rfl) ?_
          refine ops_nil ?_
          refine nR49 ?_
          refine run_ret ?_
          refine fin_ret2 rfl rfl rfl ?_
          exact ⟨i, false, rfl, ⟨by omega, hlo, hhi, (fun h => by cases h), fun _ p h2 => by
            rw [hp1] at h2
            cases h2
            exact hp47⟩, H2.noRows⟩
      · skip
        refine ops_val (ex_move rfl) ?_
        refine nO49 ?_
        refine ops_no rfl ?_
        refine ops_no rfl ?_
        refine nO49 ?_
        refine ops_no rfl ?_
        refine ops_no rfl ?_
        refine nO49 ?_
        refine ops_no rfl ?_
        refine ops_no rfl ?_
        refine nO49 ?_
        refine ops_no rfl ?_
        refine ops_no rfl ?_
        refine ops_val (ex_pick_f rfl rfl) ?_
        refine ops_val (ex_assign rfl) ?_
        refine nO49 ?_
        refine ops_val (ex_assign rfl) ?_
        refine ops_nil ?_
        refine nR49 ?_
        refine run_ret ?_
        refine fin_ret2 rfl rfl rfl ?_
        exact ⟨i, false, rfl, ⟨by omega, hlo, hhi, (fun h => by cases h), fun _ p h2 => by have := lt_of_get h2; omega⟩, H1.noRows⟩
set_option maxRecDepth 100000 in
set_option maxHeartbeats 4000000 in
theorem bsearchR (A : Option Addr) (c : Nat) (ps : List (List Value)) (n : Nat) (hn : ps.length = n) (k : FuncId) (tc : List Value) (htc : tc.length = 4) (cf : List Value → Int) (w0 : World) (hp : Pl 4 ps) (hr : Rd w0 A ps.length 4 ps.flatten) (hl : ps.length ≤ 4611686018427387903) (hC : Cmp Try.prog k (.agg tc.toArray) cf ps) :
    Does Try.prog 27 #[.slice A n c, .agg tc.toArray, .func (.func k) #[] #[]] w0 (fun r w' => ∃ (i : Nat) (f : Bool), r = .tuple #[.int .i64 (i : Int), .bool f] ∧ Found ps cf i f ∧ Hp w0 w' [] []) := by
  refine does_of Try.func27 Try.ntmps27 rfl ?_
  refine nR49 ?_
  subst hn
  have H := Hp.refl w0
  have hn := hr.len
  refine run_seq ?_
  refine run_region ?_
  refine ops_box rfl rfl H ?_
  intro w1 g4 H1 hg4
  refine ops_val (ex_assign rfl) ?_
  refine ops_val (ex_assign rfl) ?_
  refine ops_nil ?_
  refine nR49 ?_
  refine run_seq ?_
  refine run_region ?_
  refine ops_val (ex_move rfl) ?_
  refine ops_val (ex_len_slice Try.underlying25 rfl) ?_
  refine ops_val (ex_assign rfl) ?_
  refine ops_nil ?_
  refine nR49 ?_
  refine run_seq ?_
  refine run_region ?_
  refine ops_val (ex_move rfl) ?_
  refine ops_val (ex_assign rfl) ?_
  refine ops_val (ex_assign rfl) ?_
  refine ops_nil ?_
  refine nR49 ?_
  refine run_seq ?_
  refine run_block ?_
  refine run_loop (fun nQ lQ w => ∃ (i m : Nat) (y z : Int) (g4 : Nat), m - i = nQ ∧ Fits [some (.slice A ps.length c), none, some (.func (.func k) #[] #[]), none, some (.pointer (some ⟨g4, 0, none⟩)), none, none, none, some (.int .i64 (ps.length : Int)), some (.int .i64 y), some (.int .i64 z), none, none, none, none, none, none, none, none, none, none, none, none, none, none, none, none, none, none, none, none, none, none, none, none, none, none, none, none, none, none, none, none, none, none, none, none, none, none] lQ ∧ y = (i : Int) ∧ z = (m : Int) ∧ i ≤ m ∧ m ≤ ps.length ∧ (∀ (k : Nat) (p : List Value), k < i → ps[k]? = some p → cf p < 0) ∧ (∀ (k : Nat) (p : List Value), m ≤ k → ps[k]? = some p → 0 ≤ cf p) ∧ Hp w0 w [] [((some g4, 46, tc) : Ent)]) (ps.length - 0) ?_ ?_
  · exact ⟨0, ps.length, _, _, _, rfl, (fs (fn (fs (fn (fs (fn (fn (fn (fs (fs (fs (fn (fn (fn (fn (fn (fn (fn (fn (fn (fn (fn (fn (fn (fn (fn (fn (fn (fn (fn (fn (fn (fn (fn (fn (fn (fn (fn (fn (fn (fn (fn (fn (fn (fn (fn (fn (fn (fn f0))))))))))))))))))))))))))))))))))))))))))))))))), rfl, rfl, Nat.zero_le _, Nat.le_refl _, fun k p hk => by omega, fun k p hk hkp => by have := lt_of_get hkp; omega, H1⟩
  · rintro nQ lQ w2 ⟨i, m, y, z, g4, rfl, hfit, rfl, rfl, him, hmn, hlo, hhi, H2⟩
    obtain ⟨j, rfl⟩ := hfit.open
    refine nR49 ?_
    clear hfit
    refine run_seq ?_
    refine run_seq ?_
    refine run_region ?_
    refine ops_val (ex_move rfl) ?_
    refine ops_val (ex_move rfl) ?_
    refine ops_test (ex_lss rfl rfl) (fun hp17 => ?_) (fun hp17 => ?_)
    · obtain ⟨p1, hp1⟩ := get_of (l := ps) (j := (i + m) / 2) (by omega)
      have hql := lt_of_get hp1
      obtain ⟨a1, ha1⟩ := hr.some_ (by omega)
      subst ha1
      refine ops_nil ?_
      refine nR49 ?_
      refine run_cond_true rfl ?_
      refine run_skip ?_
      refine run_block ?_
      refine run_seq ?_
      refine run_region ?_
      refine ops_val (ex_move rfl) ?_
      refine ops_val (ex_move rfl) ?_
      refine ops_val (ex_add rfl rfl ((IntWalk.i64_in _ (by omega)).trans (show (i : Int) + (m : Int) = ((i + m : Nat) : Int) by omega))) ?_
      refine ops_val (ex_conv Try.underlying99 Try.underlying3 rfl ((show IntKind.u64.wrap ((i + m : Nat) : Int) = ((i + m : Nat) : Int) by rw [IntKind.wrap_u64]; omega))) ?_
      refine nO49 ?_
      refine ops_val (ex_shr rfl rfl (by omega) (show (((i + m : Nat) : Int)).fdiv (2 ^ (min (1 : Int).toNat IntKind.u64.bits)) = (((i + m) / 2 : Nat) : Int) from shr_nat (i + m) 1 64)) ?_
      refine ops_val (ex_conv Try.underlying3 Try.underlying99 rfl (IntWalk.i64_in _ (by omega))) ?_
      refine ops_val (ex_assign rfl) ?_
      refine ops_nil ?_
      refine nR49 ?_
      refine run_seq ?_
      refine run_mixZ 7 [(true, 0), (true, 1), (true, 2), (true, 3), (true, 4), (true, 5), (false, 6), (false, 7)] H2 [0] mixed (by decide) (by kernel_rfl) ?_
      rintro w3 hw3
      have H3 := Hp.drew H2; rw [← hw3] at H3
      refine mixz_p rfl ?_
      refine mix1_val (fun wz hz => ex_move rfl) ?_
      refine mixz_p rfl ?_
      refine mix1_val (fun wz hz => ex_move rfl) ?_
      refine mixz_p rfl ?_
      refine mix1_val (fun wz hz => ex_move rfl) ?_
      refine mixz_p rfl ?_
      refine mix1_val (fun wz hz => ex_idx Try.underlying25 ty46 rfl rfl rfl hql rfl) ?_
      refine nZ49 ?_
      refine mixz_p rfl ?_
      refine mix1_val (fun wz hz => ex_loadN ty46 rfl (vs := p1) (hp.at hp1) ((hr.to0 hz).elem hp hp1)) ?_
      refine mixz_p rfl ?_
      refine mix1_val (fun wz hz => ex_loadN ty46 rfl (vs := tc) htc (hz.cellsR (i := 0) rfl (by rw [List.drop_zero, List.take_length]))) ?_
      refine mixz_o rfl ?_
      refine ops_call_val (ex_call_val hC.go rfl rfl) (hC.does w3 p1 (mem_of hp1)) ?_
      intro w4 Hd
      have H4 := H3.callN Hd
      refine ops_nil ?_
      refine ⟨fun hne => H4.pick [0] (by decide), ?_⟩
      refine nZ49 ?_
      refine mixz_o rfl ?_
      refine ops_test (ex_lss rfl rfl) (fun hp31 => ?_) (fun hp31 => ?_)
      · skip
        refine ops_nil ?_
        refine ⟨fun hne => absurd rfl hne, ?_⟩
        refine mixz_nil ?_
        refine nR49 ?_
        refine run_cond_true rfl ?_
        refine run_region ?_
        refine ops_val (ex_move rfl) ?_
        refine ops_val (ex_add rfl rfl (IntWalk.i64_in _ (by omega))) ?_
        refine ops_val (ex_assign rfl) ?_
        refine ops_nil ?_
        refine nR49 ?_
        refine run_nil (blk_normal ?_)
        refine run_nil (rnd_normal ?_)
        exact ⟨m - ((i + m) / 2 + 1), by omega, (i + m) / 2 + 1, m, _, _, _, rfl, (fs (fn (fs (fn (fs (fn (fn (fn (fs (fs (fs (fn (fn (fn (fn (fn (fn (fn (fn (fn (fn (fn (fn (fn (fn (fn (fn (fn (fn (fn (fn (fn (fn (fn (fn (fn (fn (fn (fn (fn (fn (fn (fn (fn (fn (fn (fn (fn (fn f0))))))))))))))))))))))))))))))))))))))))))))))))), by omega, rfl, by omega, by omega, fun k p hk hkp => hC.mono k _ p p1 (by omega) hkp hp1 hp31, hhi, H4⟩
      · skip
        refine ops_nil ?_
        refine ⟨fun hne => absurd rfl hne, ?_⟩
        refine mixz_nil ?_
        refine nR49 ?_
        refine run_cond_false rfl ?_
        refine run_region ?_
        refine ops_val (ex_move rfl) ?_
        refine ops_val (ex_assign rfl) ?_
        refine ops_nil ?_
        refine nR49 ?_
        refine run_nil (blk_normal ?_)
        refine run_nil (rnd_normal ?_)
        exact ⟨(i + m) / 2 - i, by omega, i, (i + m) / 2, _, _, _, rfl, (fs (fn (fs (fn (fs (fn (fn (fn (fs (fs (fs (fn (fn (fn (fn (fn (fn (fn (fn (fn (fn (fn (fn (fn (fn (fn (fn (fn (fn (fn (fn (fn (fn (fn (fn (fn (fn (fn (fn (fn (fn (fn (fn (fn (fn (fn (fn (fn (fn f0))))))))))))))))))))))))))))))))))))))))))))))))), rfl, rfl, by omega, by omega, hlo, fun k p hk hkp => by
          rcases Int.lt_or_le (cf p) 0 with h | h
          · exact absurd (hC.mono _ k p1 p (by omega) hp1 hkp h) hp31
          · exact h, H4⟩
    · obtain rfl : i = m := by omega
      refine ops_nil ?_
      refine nR49 ?_
      refine run_cond_false rfl ?_
      refine run_exit ?_
      refine rnd_exit ?_
      refine blk_exit ?_
      refine run_seq ?_
      refine run_mixZ 15 [(true, 0), (true, 1), (true, 2), (true, 3), (true, 4), (true, 5), (true, 6), (true, 7), (true, 8), (true, 9), (true, 10), (false, 11), (true, 12), (true, 13), (true, 14), (false, 15)] H2 [0] mixed (by decide) (by kernel_rfl) ?_
      rintro w3 hw3
      have H3 := Hp.drew H2; rw [← hw3] at H3
      refine mixz_p rfl ?_
      refine mix1_val (fun wz hz => ex_move rfl) ?_
      refine mixz_p rfl ?_
      refine mix1_val (fun wz hz => ex_move rfl) ?_
      refine mixz_p rfl ?_
      refine mix1_val (fun wz hz => ex_move rfl) ?_
      refine mixz_p rfl ?_
      refine mix1_test (fun wz hz => ex_lss rfl rfl) (fun hp38 => ?_) (fun hp38 => ?_)
      · obtain ⟨p1, hp1⟩ := get_of (l := ps) (j := i) (by omega)
        have hql := lt_of_get hp1
        obtain ⟨a1, ha1⟩ := hr.some_ (by omega)
        subst ha1
        refine mixz_p rfl ?_
        refine mix1_val (fun wz hz => ex_move rfl) ?_
        refine nZ49 ?_
        refine mixz_p rfl ?_
        refine mix1_yes rfl ?_
        refine mix1_val (fun wz hz => ex_move rfl) ?_
        refine mixz_p rfl ?_
        refine mix1_yes rfl ?_
        refine mix1_val (fun wz hz => ex_move rfl) ?_
        refine mixz_p rfl ?_
        refine mix1_yes rfl ?_
        refine mix1_val (fun wz hz => ex_move rfl) ?_
        refine mixz_p rfl ?_
        refine mix1_yes rfl ?_
        refine mix1_val (fun wz hz => ex_idx Try.underlying25 ty46 rfl rfl rfl hql rfl) ?_
        refine nZ49 ?_
        refine mixz_p rfl ?_
        refine mix1_yes rfl ?_
        refine mix1_val (fun wz hz => ex_loadN ty46 rfl (vs := p1) (hp.at hp1) ((hr.to0 hz).elem hp hp1)) ?_
        refine mixz_p rfl ?_
        refine mix1_yes rfl ?_
        refine mix1_val (fun wz hz => ex_loadN ty46 rfl (vs := tc) htc (hz.cellsR (i := 0) rfl (by rw [List.drop_zero, List.take_length]))) ?_
        refine mixz_o rfl ?_
        refine ops_yes rfl ?_
        refine ops_call_val (ex_call_val hC.go rfl rfl) (hC.does w3 p1 (mem_of hp1)) ?_
        intro w4 Hd
        have H4 := H3.callN Hd
        refine ops_nil ?_
        refine ⟨fun hne => H4.pick [0] (by decide), ?_⟩
        refine nZ49 ?_
        refine mixz_p rfl ?_
        refine mix1_yes rfl ?_
        refine mix1_test (fun wz hz => ex_eql rfl rfl) (fun hp47 => ?_) (fun hp47 => ?_)
        · skip
          refine mixz_p rfl ?_
          refine mix1_val (fun wz hz => ex_pick_t rfl rfl) ?_
          refine mixz_p rfl ?_
          refine mix1_val (fun wz hz => ex_assign rfl) ?_
          refine mixz_o rfl ?_
          refine ops_val (ex_assign rfl) ?_
          refine ops_nil ?_
          refine ⟨fun hne => absurd rfl hne, ?_⟩
          refine nZ49 ?_
          refine mixz_nil ?_
          refine nR49 ?_
          refine run_ret ?_
          refine fin_ret2 rfl rfl rfl ?_
          exact ⟨i, true, rfl, ⟨by omega, hlo, hhi, fun _ => ⟨p1, hp1, hp47⟩, fun h => by cases h⟩, H4.noRows⟩
        · skip
          refine mixz_p rfl ?_
          refine mix1_val (fun wz hz => ex_pick_t rfl rfl) ?_
          refine mixz_p rfl ?_
          refine mix1_val (fun wz hz => ex_assign rfl) ?_
          refine mixz_o rfl ?_
          refine ops_val (ex_assign rfl) ?_
          refine ops_nil ?_
          refine ⟨fun hne => absurd rfl hne, ?_⟩
          refine nZ49 ?_
          refine mixz_nil ?_
          refine nR49 ?_
          refine run_ret ?_
          refine fin_ret2 rfl rfl rfl ?_
          exact ⟨i, false, rfl, ⟨by omega, hlo, hhi, (fun h => by cases h), fun _ p h2 => by
            rw [hp1] at h2
            cases h2
            exact hp47⟩, H4.noRows⟩
      · skip
        refine mixz_p rfl ?_
        refine mix1_val (fun wz hz => ex_move rfl) ?_
        refine nZ49 ?_
        refine mixz_p rfl ?_
        refine mix1_no rfl ?_
        refine mixz_p rfl ?_
        refine mix1_no rfl ?_
        refine nZ49 ?_
        refine mixz_p rfl ?_
        refine mix1_no rfl ?_
        refine mixz_p rfl ?_
        refine mix1_no rfl ?_
        refine nZ49 ?_
        refine mixz_p rfl ?_
        refine mix1_no rfl ?_
        refine mixz_p rfl ?_
        refine mix1_no rfl ?_
        refine nZ49 ?_
        refine mixz_o rfl ?_
        refine ops_no rfl ?_
        refine ops_nil ?_
        refine ⟨fun hne => H3.pick [0] (by decide), ?_⟩
        refine mixz_p rfl ?_
        refine mix1_no rfl ?_
        refine nZ49 ?_
        refine mixz_p rfl ?_
        refine mix1_val (fun wz hz => ex_pick_f rfl rfl) ?_
        refine mixz_p rfl ?_
        refine mix1_val (fun wz hz => ex_assign rfl) ?_
        refine mixz_o rfl ?_
        refine ops_val (ex_assign rfl) ?_
        refine ops_nil ?_
        refine ⟨fun hne => absurd rfl hne, ?_⟩
        refine nZ49 ?_
        refine mixz_nil ?_
        refine nR49 ?_
        refine run_ret ?_
        refine fin_ret2 rfl rfl rfl ?_
        exact ⟨i, false, rfl, ⟨by omega, hlo, hhi, (fun h => by cases h), fun _ p h2 => by have := lt_of_get h2; omega⟩, H3.noRows⟩
end Go.Proofs.Ytbninklfoogmdaa
