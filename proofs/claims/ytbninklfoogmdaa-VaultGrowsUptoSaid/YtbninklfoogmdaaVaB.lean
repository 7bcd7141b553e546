/- Walks of layer 2, printed by wip/gen/codec.py. -/
import Derived.Test.YtbninklfoogmdaaVl
import Derived.Test.YtbninklfoogmdaaCodecA
namespace Go.Proofs.Ytbninklfoogmdaa
open Go Go.RowKit
set_option linter.unusedVariables false
attribute [local irreducible] Still Ops Does Cd
set_option maxRecDepth 100000 in
set_option maxHeartbeats 4000000 in
theorem cloneV (A : Option Addr) (n c : Nat) (cs : List Value) (w0 : World) (hr : Rd w0 A n 4 cs) (ho : cs.all (·.oneCell') = true) (hb : n * 48 ≤ 211106232532992) :
    Does Try.prog 40 #[.slice A n c] w0 (fun r w' => Rw w0 w' r 41 4 n cs) := by
  refine does_of Try.func40 Try.ntmps40 rfl ?_
  change Run _ _ _ _ [.slice A n c, undef, undef, undef, undef, undef, undef, undef] _
  have H := Hp.refl w0
  refine run_seq ?_
  refine run_region ?_
  refine ops_val (ex_assign rfl) ?_
  refine ops_nil ?_
  change Run _ _ _ _ [_, _, _, _, _, _, _, _] _
  refine run_seq ?_
  refine run_seq ?_
  refine run_region ?_
  refine ops_val (ex_move rfl) ?_
  refine ops_test (ex_eql_nil_slice Try.underlying35 rfl) (fun hp4 => ?_) (fun hp4 => ?_)
  · skip
    refine ops_nil ?_
    change Run _ _ _ _ [_, _, _, _, _, _, _, _] _
    refine run_cond_true rfl ?_
    refine run_seq ?_
    refine run_region ?_
    refine ops_val (ex_assign rfl) ?_
    refine ops_nil ?_
    change Run _ _ _ _ [_, _, _, _, _, _, _, _] _
    refine run_ret ?_
    refine fin_ret1 rfl rfl ?_
    have hn0 : n = 0 := hr.nil hp4
    subst hn0
    have hb : cs = [] := List.eq_nil_of_length_eq_zero (by rw [hr.len, Nat.zero_mul])
    subst hb
    exact ⟨none, 0, [], rfl, Nat.le_refl _, by simp, fun _ => rfl, by have := H.nil 41; exact this⟩
  · skip
    refine ops_nil ?_
    change Run _ _ _ _ [_, _, _, _, _, _, _, _] _
    refine run_cond_false rfl ?_
    refine run_skip ?_
    refine run_seq ?_
    refine run_region ?_
    refine ops_buildSlice Try.underlying35 ty41 H rfl (by decide) rfl ?_
    intro w1 g1 H1 hg1
    refine ops_val (ex_move rfl) ?_
    refine ops_append Try.underlying35 ty41 (by decide) H1 0 (g := some g1) (xs := []) (sp := []) rfl rfl rfl (by decide) (by decide) (by simp) rfl (hr.to0 H1) ho (by omega) (by omega) (by decide) ?_
    intro w2 g3 cap3 sp3 H2 hcap3 hmc3 hg3
    refine ops_val (ex_assign rfl) ?_
    refine ops_nil ?_
    change Run _ _ _ _ [_, _, _, _, _, _, _, _] _
    refine run_ret ?_
    refine fin_ret1 rfl rfl ?_
    rw [Nat.zero_add] at hmc3
    refine ⟨g3, cap3, sp3, ?_, hmc3, hcap3, hg3, H2.pick [0] (by decide)⟩
    rw [Nat.zero_add]
set_option maxRecDepth 100000 in
set_option maxHeartbeats 4000000 in
theorem cloneE (A : Option Addr) (n c : Nat) (cs : List Value) (w0 : World) (hr : Rd w0 A n 2 cs) (ho : cs.all (·.oneCell') = true) (hb : n * 32 ≤ 211106232532992) :
    Does Try.prog 42 #[.slice A n c] w0 (fun r w' => Rw w0 w' r 44 2 n cs) := by
  refine does_of Try.func42 Try.ntmps42 rfl ?_
  change Run _ _ _ _ [.slice A n c, undef, undef, undef, undef, undef, undef, undef] _
  have H := Hp.refl w0
  refine run_seq ?_
  refine run_region ?_
  refine ops_val (ex_assign rfl) ?_
  refine ops_nil ?_
  change Run _ _ _ _ [_, _, _, _, _, _, _, _] _
  refine run_seq ?_
  refine run_seq ?_
  refine run_region ?_
  refine ops_val (ex_move rfl) ?_
  refine ops_test (ex_eql_nil_slice Try.underlying37 rfl) (fun hp4 => ?_) (fun hp4 => ?_)
  · skip
    refine ops_nil ?_
    change Run _ _ _ _ [_, _, _, _, _, _, _, _] _
    refine run_cond_true rfl ?_
    refine run_seq ?_
    refine run_region ?_
    refine ops_val (ex_assign rfl) ?_
    refine ops_nil ?_
    change Run _ _ _ _ [_, _, _, _, _, _, _, _] _
    refine run_ret ?_
    refine fin_ret1 rfl rfl ?_
    have hn0 : n = 0 := hr.nil hp4
    subst hn0
    have hb : cs = [] := List.eq_nil_of_length_eq_zero (by rw [hr.len, Nat.zero_mul])
    subst hb
    exact ⟨none, 0, [], rfl, Nat.le_refl _, by simp, fun _ => rfl, by have := H.nil 44; exact this⟩
  · skip
    refine ops_nil ?_
    change Run _ _ _ _ [_, _, _, _, _, _, _, _] _
    refine run_cond_false rfl ?_
    refine run_skip ?_
    refine run_seq ?_
    refine run_region ?_
    refine ops_buildSlice Try.underlying37 ty44 H rfl (by decide) rfl ?_
    intro w1 g1 H1 hg1
    refine ops_val (ex_move rfl) ?_
    refine ops_append Try.underlying37 ty44 (by decide) H1 0 (g := some g1) (xs := []) (sp := []) rfl rfl rfl (by decide) (by decide) (by simp) rfl (hr.to0 H1) ho (by omega) (by omega) (by decide) ?_
    intro w2 g3 cap3 sp3 H2 hcap3 hmc3 hg3
    refine ops_val (ex_assign rfl) ?_
    refine ops_nil ?_
    change Run _ _ _ _ [_, _, _, _, _, _, _, _] _
    refine run_ret ?_
    refine fin_ret1 rfl rfl ?_
    rw [Nat.zero_add] at hmc3
    refine ⟨g3, cap3, sp3, ?_, hmc3, hcap3, hg3, H2.pick [0] (by decide)⟩
    rw [Nat.zero_add]
set_option maxRecDepth 100000 in
set_option maxHeartbeats 4000000 in
theorem cloneR (A : Option Addr) (n c : Nat) (cs : List Value) (w0 : World) (hr : Rd w0 A n 4 cs) (ho : cs.all (·.oneCell') = true) (hb : n * 40 ≤ 211106232532992) :
    Does Try.prog 26 #[.slice A n c] w0 (fun r w' => Rw w0 w' r 46 4 n cs) := by
  refine does_of Try.func26 Try.ntmps26 rfl ?_
  change Run _ _ _ _ [.slice A n c, undef, undef, undef, undef, undef, undef, undef] _
  have H := Hp.refl w0
  refine run_seq ?_
  refine run_region ?_
  refine ops_val (ex_assign rfl) ?_
  refine ops_nil ?_
  change Run _ _ _ _ [_, _, _, _, _, _, _, _] _
  refine run_seq ?_
  refine run_seq ?_
  refine run_region ?_
  refine ops_val (ex_move rfl) ?_
  refine ops_test (ex_eql_nil_slice Try.underlying25 rfl) (fun hp4 => ?_) (fun hp4 => ?_)
  · skip
    refine ops_nil ?_
    change Run _ _ _ _ [_, _, _, _, _, _, _, _] _
    refine run_cond_true rfl ?_
    refine run_seq ?_
    refine run_region ?_
    refine ops_val (ex_assign rfl) ?_
    refine ops_nil ?_
    change Run _ _ _ _ [_, _, _, _, _, _, _, _] _
    refine run_ret ?_
    refine fin_ret1 rfl rfl ?_
    have hn0 : n = 0 := hr.nil hp4
    subst hn0
    have hb : cs = [] := List.eq_nil_of_length_eq_zero (by rw [hr.len, Nat.zero_mul])
    subst hb
    exact ⟨none, 0, [], rfl, Nat.le_refl _, by simp, fun _ => rfl, by have := H.nil 46; exact this⟩
  · skip
    refine ops_nil ?_
    change Run _ _ _ _ [_, _, _, _, _, _, _, _] _
    refine run_cond_false rfl ?_
    refine run_skip ?_
    refine run_seq ?_
    refine run_region ?_
    refine ops_buildSlice Try.underlying25 ty46 H rfl (by decide) rfl ?_
    intro w1 g1 H1 hg1
    refine ops_val (ex_move rfl) ?_
    refine ops_append Try.underlying25 ty46 (by decide) H1 0 (g := some g1) (xs := []) (sp := []) rfl rfl rfl (by decide) (by decide) (by simp) rfl (hr.to0 H1) ho (by omega) (by omega) (by decide) ?_
    intro w2 g3 cap3 sp3 H2 hcap3 hmc3 hg3
    refine ops_val (ex_assign rfl) ?_
    refine ops_nil ?_
    change Run _ _ _ _ [_, _, _, _, _, _, _, _] _
    refine run_ret ?_
    refine fin_ret1 rfl rfl ?_
    rw [Nat.zero_add] at hmc3
    refine ⟨g3, cap3, sp3, ?_, hmc3, hcap3, hg3, H2.pick [0] (by decide)⟩
    rw [Nat.zero_add]
set_option maxRecDepth 100000 in
set_option maxHeartbeats 4000000 in
theorem cloneM (A : Option Addr) (n c : Nat) (cs : List Value) (w0 : World) (hr : Rd w0 A n 7 cs) (ho : cs.all (·.oneCell') = true) (hb : n * 56 ≤ 211106232532992) :
    Does Try.prog 16 #[.slice A n c] w0 (fun r w' => Rw w0 w' r 62 7 n cs) := by
  refine does_of Try.func16 Try.ntmps16 rfl ?_
  change Run _ _ _ _ [.slice A n c, undef, undef, undef, undef, undef, undef, undef] _
  have H := Hp.refl w0
  refine run_seq ?_
  refine run_region ?_
  refine ops_val (ex_assign rfl) ?_
  refine ops_nil ?_
  change Run _ _ _ _ [_, _, _, _, _, _, _, _] _
  refine run_seq ?_
  refine run_seq ?_
  refine run_region ?_
  refine ops_val (ex_move rfl) ?_
  refine ops_test (ex_eql_nil_slice Try.underlying26 rfl) (fun hp4 => ?_) (fun hp4 => ?_)
  · skip
    refine ops_nil ?_
    change Run _ _ _ _ [_, _, _, _, _, _, _, _] _
    refine run_cond_true rfl ?_
    refine run_seq ?_
    refine run_region ?_
    refine ops_val (ex_assign rfl) ?_
    refine ops_nil ?_
    change Run _ _ _ _ [_, _, _, _, _, _, _, _] _
    refine run_ret ?_
    refine fin_ret1 rfl rfl ?_
    have hn0 : n = 0 := hr.nil hp4
    subst hn0
    have hb : cs = [] := List.eq_nil_of_length_eq_zero (by rw [hr.len, Nat.zero_mul])
    subst hb
    exact ⟨none, 0, [], rfl, Nat.le_refl _, by simp, fun _ => rfl, by have := H.nil 62; exact this⟩
  · skip
    refine ops_nil ?_
    change Run _ _ _ _ [_, _, _, _, _, _, _, _] _
    refine run_cond_false rfl ?_
    refine run_skip ?_
    refine run_seq ?_
    refine run_region ?_
    refine ops_buildSlice Try.underlying26 ty62 H rfl (by decide) rfl ?_
    intro w1 g1 H1 hg1
    refine ops_val (ex_move rfl) ?_
    refine ops_append Try.underlying26 ty62 (by decide) H1 0 (g := some g1) (xs := []) (sp := []) rfl rfl rfl (by decide) (by decide) (by simp) rfl (hr.to0 H1) ho (by omega) (by omega) (by decide) ?_
    intro w2 g3 cap3 sp3 H2 hcap3 hmc3 hg3
    refine ops_val (ex_assign rfl) ?_
    refine ops_nil ?_
    change Run _ _ _ _ [_, _, _, _, _, _, _, _] _
    refine run_ret ?_
    refine fin_ret1 rfl rfl ?_
    rw [Nat.zero_add] at hmc3
    refine ⟨g3, cap3, sp3, ?_, hmc3, hcap3, hg3, H2.pick [0] (by decide)⟩
    rw [Nat.zero_add]
set_option maxRecDepth 100000 in
set_option maxHeartbeats 4000000 in
theorem cloneS (A : Option Addr) (n c : Nat) (cs : List Value) (w0 : World) (hr : Rd w0 A n 6 cs) (ho : cs.all (·.oneCell') = true) (hb : n * 96 ≤ 211106232532992) :
    Does Try.prog 12 #[.slice A n c] w0 (fun r w' => Rw w0 w' r 39 6 n cs) := by
  refine does_of Try.func12 Try.ntmps12 rfl ?_
  change Run _ _ _ _ [.slice A n c, undef, undef, undef, undef, undef, undef, undef] _
  have H := Hp.refl w0
  refine run_seq ?_
  refine run_region ?_
  refine ops_val (ex_assign rfl) ?_
  refine ops_nil ?_
  change Run _ _ _ _ [_, _, _, _, _, _, _, _] _
  refine run_seq ?_
  refine run_seq ?_
  refine run_region ?_
  refine ops_val (ex_move rfl) ?_
  refine ops_test (ex_eql_nil_slice Try.underlying24 rfl) (fun hp4 => ?_) (fun hp4 => ?_)
  · skip
    refine ops_nil ?_
    change Run _ _ _ _ [_, _, _, _, _, _, _, _] _
    refine run_cond_true rfl ?_
    refine run_seq ?_
    refine run_region ?_
    refine ops_val (ex_assign rfl) ?_
    refine ops_nil ?_
    change Run _ _ _ _ [_, _, _, _, _, _, _, _] _
    refine run_ret ?_
    refine fin_ret1 rfl rfl ?_
    have hn0 : n = 0 := hr.nil hp4
    subst hn0
    have hb : cs = [] := List.eq_nil_of_length_eq_zero (by rw [hr.len, Nat.zero_mul])
    subst hb
    exact ⟨none, 0, [], rfl, Nat.le_refl _, by simp, fun _ => rfl, by have := H.nil 39; exact this⟩
  · skip
    refine ops_nil ?_
    change Run _ _ _ _ [_, _, _, _, _, _, _, _] _
    refine run_cond_false rfl ?_
    refine run_skip ?_
    refine run_seq ?_
    refine run_region ?_
    refine ops_buildSlice Try.underlying24 ty39 H rfl (by decide) rfl ?_
    intro w1 g1 H1 hg1
    refine ops_val (ex_move rfl) ?_
    refine ops_append Try.underlying24 ty39 (by decide) H1 0 (g := some g1) (xs := []) (sp := []) rfl rfl rfl (by decide) (by decide) (by simp) rfl (hr.to0 H1) ho (by omega) (by omega) (by decide) ?_
    intro w2 g3 cap3 sp3 H2 hcap3 hmc3 hg3
    refine ops_val (ex_assign rfl) ?_
    refine ops_nil ?_
    change Run _ _ _ _ [_, _, _, _, _, _, _, _] _
    refine run_ret ?_
    refine fin_ret1 rfl rfl ?_
    rw [Nat.zero_add] at hmc3
    refine ⟨g3, cap3, sp3, ?_, hmc3, hcap3, hg3, H2.pick [0] (by decide)⟩
    rw [Nat.zero_add]
end Go.Proofs.Ytbninklfoogmdaa
