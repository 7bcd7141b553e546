/- Walks of layer 2, printed by wip/gen/codec.py. -/
import Derived.Test.YtbninklfoogmdaaGreatNf
import Derived.Test.YtbninklfoogmdaaGreatVl
import Derived.Test.YtbninklfoogmdaaGreatCodecA
namespace Go.Proofs.YtbninklfoogmdaaGreat
open Go Go.RowKit
set_option linter.unusedVariables false
attribute [local irreducible] Still Ops Does Cd
set_option maxRecDepth 100000 in
set_option maxHeartbeats 4000000 in
theorem cloneV (A : Option Addr) (n c : Nat) (cs : List Value) (w0 : World) (hr : Rd w0 A n 4 cs) (ho : cs.all (·.oneCell') = true) (hb : n * 48 ≤ 211106232532992) : Does Tryz.prog 52 #[.slice A n c] w0 (fun r w' => Rw w0 w' r 39 4 n cs) := by
 refine does_of Tryz.func52 Tryz.ntmps52 rfl<|cR e8 ?_
 have H := Hp.refl w0
 refine Rq<|Xa rfl<|Xr e8<|J1<|Rq<|Xm rfl<|OT (ex_eql_nil_slice Tryz.underlying54 rfl) (fun hp4 => ?_) (fun hp4 => ?_)
 refine Xr e8<|J3 rfl<|Rq<|Xa rfl<|Xr e8<|J5<|FN1 rfl rfl ?_
 have hn0 : n = 0 := hr.nil hp4
 subst hn0
 have hb : cs = [] := List.eq_nil_of_length_eq_zero (by rw [hr.len, Nat.zero_mul])
 subst hb
 exact ⟨none, 0, [], rfl, Nat.le_refl _, by simp, fun _ => rfl, by have := H.nil 39; exact this⟩
 refine Xr e8<|J4 rfl<|J6<|Rq<|ops_buildSlice Tryz.underlying54 ty39 H rfl (by decide) rfl<|fun w1 g1 H1 hg1=>Xm rfl<|ops_append Tryz.underlying54 ty39 (by decide) H1 0 (g := some g1) (xs := []) (sp := []) rfl rfl rfl (by decide) (by decide) (by simp) rfl (hr.to0 H1) ho (by omega) (by omega) (by decide)<|fun w2 g3 cap3 sp3 H2 hcap3 hmc3 hg3=>Xa rfl<|Xr e8<|J5<|FN1 rfl rfl ?_
 rw [Nat.zero_add] at hmc3
 refine ⟨g3, cap3, sp3, ?_, hmc3, hcap3, hg3, H2.pick [0] (by decide)⟩
 rw [Nat.zero_add]
set_option maxRecDepth 100000 in
set_option maxHeartbeats 4000000 in
theorem cloneE (A : Option Addr) (n c : Nat) (cs : List Value) (w0 : World) (hr : Rd w0 A n 2 cs) (ho : cs.all (·.oneCell') = true) (hb : n * 32 ≤ 211106232532992) : Does Tryz.prog 53 #[.slice A n c] w0 (fun r w' => Rw w0 w' r 41 2 n cs) := by
 refine does_of Tryz.func53 Tryz.ntmps53 rfl<|cR e8 ?_
 have H := Hp.refl w0
 refine Rq<|Xa rfl<|Xr e8<|J1<|Rq<|Xm rfl<|OT (ex_eql_nil_slice Tryz.underlying55 rfl) (fun hp4 => ?_) (fun hp4 => ?_)
 refine Xr e8<|J3 rfl<|Rq<|Xa rfl<|Xr e8<|J5<|FN1 rfl rfl ?_
 have hn0 : n = 0 := hr.nil hp4
 subst hn0
 have hb : cs = [] := List.eq_nil_of_length_eq_zero (by rw [hr.len, Nat.zero_mul])
 subst hb
 exact ⟨none, 0, [], rfl, Nat.le_refl _, by simp, fun _ => rfl, by have := H.nil 41; exact this⟩
 refine Xr e8<|J4 rfl<|J6<|Rq<|ops_buildSlice Tryz.underlying55 ty41 H rfl (by decide) rfl<|fun w1 g1 H1 hg1=>Xm rfl<|ops_append Tryz.underlying55 ty41 (by decide) H1 0 (g := some g1) (xs := []) (sp := []) rfl rfl rfl (by decide) (by decide) (by simp) rfl (hr.to0 H1) ho (by omega) (by omega) (by decide)<|fun w2 g3 cap3 sp3 H2 hcap3 hmc3 hg3=>Xa rfl<|Xr e8<|J5<|FN1 rfl rfl ?_
 rw [Nat.zero_add] at hmc3
 refine ⟨g3, cap3, sp3, ?_, hmc3, hcap3, hg3, H2.pick [0] (by decide)⟩
 rw [Nat.zero_add]
set_option maxRecDepth 100000 in
set_option maxHeartbeats 4000000 in
theorem cloneR (A : Option Addr) (n c : Nat) (cs : List Value) (w0 : World) (hr : Rd w0 A n 4 cs) (ho : cs.all (·.oneCell') = true) (hb : n * 40 ≤ 211106232532992) : Does Tryz.prog 54 #[.slice A n c] w0 (fun r w' => Rw w0 w' r 43 4 n cs) := by
 refine does_of Tryz.func54 Tryz.ntmps54 rfl<|cR e8 ?_
 have H := Hp.refl w0
 refine Rq<|Xa rfl<|Xr e8<|J1<|Rq<|Xm rfl<|OT (ex_eql_nil_slice Tryz.underlying24 rfl) (fun hp4 => ?_) (fun hp4 => ?_)
 refine Xr e8<|J3 rfl<|Rq<|Xa rfl<|Xr e8<|J5<|FN1 rfl rfl ?_
 have hn0 : n = 0 := hr.nil hp4
 subst hn0
 have hb : cs = [] := List.eq_nil_of_length_eq_zero (by rw [hr.len, Nat.zero_mul])
 subst hb
 exact ⟨none, 0, [], rfl, Nat.le_refl _, by simp, fun _ => rfl, by have := H.nil 43; exact this⟩
 refine Xr e8<|J4 rfl<|J6<|Rq<|ops_buildSlice Tryz.underlying24 ty43 H rfl (by decide) rfl<|fun w1 g1 H1 hg1=>Xm rfl<|ops_append Tryz.underlying24 ty43 (by decide) H1 0 (g := some g1) (xs := []) (sp := []) rfl rfl rfl (by decide) (by decide) (by simp) rfl (hr.to0 H1) ho (by omega) (by omega) (by decide)<|fun w2 g3 cap3 sp3 H2 hcap3 hmc3 hg3=>Xa rfl<|Xr e8<|J5<|FN1 rfl rfl ?_
 rw [Nat.zero_add] at hmc3
 refine ⟨g3, cap3, sp3, ?_, hmc3, hcap3, hg3, H2.pick [0] (by decide)⟩
 rw [Nat.zero_add]
set_option maxRecDepth 100000 in
set_option maxHeartbeats 4000000 in
theorem cloneM (A : Option Addr) (n c : Nat) (cs : List Value) (w0 : World) (hr : Rd w0 A n 7 cs) (ho : cs.all (·.oneCell') = true) (hb : n * 56 ≤ 211106232532992) : Does Tryz.prog 55 #[.slice A n c] w0 (fun r w' => Rw w0 w' r 63 7 n cs) := by
 refine does_of Tryz.func55 Tryz.ntmps55 rfl<|cR e8 ?_
 have H := Hp.refl w0
 refine Rq<|Xa rfl<|Xr e8<|J1<|Rq<|Xm rfl<|OT (ex_eql_nil_slice Tryz.underlying25 rfl) (fun hp4 => ?_) (fun hp4 => ?_)
 refine Xr e8<|J3 rfl<|Rq<|Xa rfl<|Xr e8<|J5<|FN1 rfl rfl ?_
 have hn0 : n = 0 := hr.nil hp4
 subst hn0
 have hb : cs = [] := List.eq_nil_of_length_eq_zero (by rw [hr.len, Nat.zero_mul])
 subst hb
 exact ⟨none, 0, [], rfl, Nat.le_refl _, by simp, fun _ => rfl, by have := H.nil 63; exact this⟩
 refine Xr e8<|J4 rfl<|J6<|Rq<|ops_buildSlice Tryz.underlying25 ty63 H rfl (by decide) rfl<|fun w1 g1 H1 hg1=>Xm rfl<|ops_append Tryz.underlying25 ty63 (by decide) H1 0 (g := some g1) (xs := []) (sp := []) rfl rfl rfl (by decide) (by decide) (by simp) rfl (hr.to0 H1) ho (by omega) (by omega) (by decide)<|fun w2 g3 cap3 sp3 H2 hcap3 hmc3 hg3=>Xa rfl<|Xr e8<|J5<|FN1 rfl rfl ?_
 rw [Nat.zero_add] at hmc3
 refine ⟨g3, cap3, sp3, ?_, hmc3, hcap3, hg3, H2.pick [0] (by decide)⟩
 rw [Nat.zero_add]
set_option maxRecDepth 100000 in
set_option maxHeartbeats 4000000 in
theorem cloneS (A : Option Addr) (n c : Nat) (cs : List Value) (w0 : World) (hr : Rd w0 A n 6 cs) (ho : cs.all (·.oneCell') = true) (hb : n * 96 ≤ 211106232532992) : Does Tryz.prog 37 #[.slice A n c] w0 (fun r w' => Rw w0 w' r 57 6 n cs) := by
 refine does_of Tryz.func37 Tryz.ntmps37 rfl<|cR e8 ?_
 have H := Hp.refl w0
 refine Rq<|Xa rfl<|Xr e8<|J1<|Rq<|Xm rfl<|OT (ex_eql_nil_slice Tryz.underlying23 rfl) (fun hp4 => ?_) (fun hp4 => ?_)
 refine Xr e8<|J3 rfl<|Rq<|Xa rfl<|Xr e8<|J5<|FN1 rfl rfl ?_
 have hn0 : n = 0 := hr.nil hp4
 subst hn0
 have hb : cs = [] := List.eq_nil_of_length_eq_zero (by rw [hr.len, Nat.zero_mul])
 subst hb
 exact ⟨none, 0, [], rfl, Nat.le_refl _, by simp, fun _ => rfl, by have := H.nil 57; exact this⟩
 refine Xr e8<|J4 rfl<|J6<|Rq<|ops_buildSlice Tryz.underlying23 ty57 H rfl (by decide) rfl<|fun w1 g1 H1 hg1=>Xm rfl<|ops_append Tryz.underlying23 ty57 (by decide) H1 0 (g := some g1) (xs := []) (sp := []) rfl rfl rfl (by decide) (by decide) (by simp) rfl (hr.to0 H1) ho (by omega) (by omega) (by decide)<|fun w2 g3 cap3 sp3 H2 hcap3 hmc3 hg3=>Xa rfl<|Xr e8<|J5<|FN1 rfl rfl ?_
 rw [Nat.zero_add] at hmc3
 refine ⟨g3, cap3, sp3, ?_, hmc3, hcap3, hg3, H2.pick [0] (by decide)⟩
 rw [Nat.zero_add]
end Go.Proofs.YtbninklfoogmdaaGreat
