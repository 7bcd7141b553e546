/- Walks of layer 2, printed by wip/gen/codec.py. -/
import Derived.Test.YtlglenbmpikhmaaDoorCodecB
namespace Go.Proofs.YtlglenbmpikhmaaDoor
open Go Go.RowKit
set_option linter.unusedVariables false
attribute [local irreducible] Still Ops Does Cd
set_option maxRecDepth 100000 in
set_option maxHeartbeats 4000000 in
theorem new_any (A : Option Addr) (b : List UInt8) (c : Nat) (w0 : World) (hr : Rd w0 A b.length 1 (u8s b)) (hb : b.length ≤ 211106232532900) :
    Does Tryd.prog 27 #[.slice A b.length c] w0 (fun r w' => NewRd w0 w' r b) := by
  refine does_of Tryd.func27 Tryd.ntmps27 rfl ?_
  change Run _ _ _ _ [.slice A b.length c, undef, undef, undef, undef, undef, undef] _
  have H := Hp.refl w0
  refine run_seq ?_
  refine run_region ?_
  refine ops_val (ex_assign rfl) ?_
  refine ops_nil ?_
  change Run _ _ _ _ [_, _, _, _, _, _, _] _
  refine run_seq ?_
  refine run_region ?_
  refine ops_val (ex_move rfl) ?_
  refine ops_call_own (ex_call gf25 rfl) (clone_any A b c _ (hr.to0 H) (by omega)) ?_
  intro w1 g1 c1 sp1 hm1 hc1 hg1 Hc
  have H1 := H.call0 Hc
  refine ops_val (ex_build ty51 pl51 rfl rfl) ?_
  refine ops_box rfl rfl H1 ?_
  intro w2 g2 H2 hg2
  change Ops _ _ _ _ _ _ [_, _, _, _, _, _, _] _
  refine ops_val (ex_assign rfl) ?_
  refine ops_nil ?_
  change Run _ _ _ _ [_, _, _, _, _, _, _] _
  refine run_ret ?_
  refine fin_ret1 rfl rfl ?_
  exact ⟨g2, g1, c1, sp1, rfl, hm1, hc1, hg1, H2.pick [1, 0] (by decide)⟩
set_option maxRecDepth 100000 in
set_option maxHeartbeats 4000000 in
theorem num_go (gr : Nat) (A : Option Addr) (c : Nat) (b : List UInt8) (i e : Nat) (w0 : World) (hR : Rdr w0 gr A c b i e) (he : e = 0) :
    Does Tryd.prog 28 #[.pointer (some ⟨gr, 0, none⟩)] w0 (fun r w' => r = .int .u64 ((numStep b i e).1 : Int) ∧ Hp w0 w' [gr] [(some gr, 51, rc A b c (numStep b i e).2.1 (numStep b i e).2.2)]) := by
  refine does_of Tryd.func28 Tryd.ntmps28 rfl ?_
  change Run _ _ _ _ [.pointer (some ⟨gr, 0, none⟩), undef, undef, undef, undef, undef, undef, undef, undef] _
  have H := Hp.old hR.row
  have hle := hR.le
  have hln := hR.len
  have hcp := hR.cap
  refine run_seq ?_
  refine run_region ?_
  refine ops_val (ex_assign rfl) ?_
  refine ops_nil ?_
  change Run _ _ _ _ [_, _, _, _, _, _, _, _, _] _
  refine run_seq ?_
  refine run_region ?_
  refine ops_alloc ty31 H ?_
  intro w1 g1 H1 hg1
  refine ops_store1 ty31 H1 1 rfl rfl rfl rfl (by first | decide | simp) rfl ?_
  intro w2 H2
  refine ops_nil ?_
  change Run _ _ _ _ [_, _, _, _, _, _, _, _, _] _
  refine run_seq ?_
  refine run_seq ?_
  refine run_region ?_
  refine ops_val (ex_move rfl) ?_
  refine ops_val (ex_makeFunc rfl rfl) ?_
  have hR1 : Rdr w2 gr A c b i e := ⟨H2.at (i := 0) rfl, hR.rd.to H2 (by intro a ha; simp; exact hR.apart a ha), hR.apart, hR.le, hR.cap, hR.len⟩
  have hgv := H2.at (i := 1) rfl
  have hne : gr ≠ g1 := fun h => absurd (H2.apart 0 1 _ _ gr rfl rfl rfl (by rw [h])) (by decide)
  have hbd := numOf_bd (b.drop i)
  have hdl : (b.drop i).length = b.length - i := List.length_drop
  refine ops_thing (ex_call gf33 rfl) (thing_go gr A c b i e _ hR1 he 34 [.pointer (some ⟨g1, 0, none⟩)] gf34 (fun k f wz => k = (numOf (b.drop i)).2.1 ∧ f = (numOf (b.drop i)).2.2 ∧ Hp w2 wz [g1] [(some g1, 31, [.int .u64 ((numOf (b.drop i)).1 : Int)])]) (fun w1x H1x => (num1_any g1 w1x (H1x.keep hgv (by simp)) _ (b.drop i) _ ((hR1.rd.to0 H1x).tail hle) (by omega)).mono fun r w2 hh => ⟨_, _, hh.1, rfl, rfl, H1x.then hh.2⟩) (fun k f w2 hh => hh.2.2.keep hR1.row (by simp [hne])) (fun k f w2 hh => by obtain ⟨h1, h2, _⟩ := hh; omega) (fun k f w2 hh h0 => by obtain ⟨h1, h2, _⟩ := hh; omega)) ?_
  intro k f w2x w3 hk hm
  obtain ⟨hk1, hk2, hk3⟩ := hk
  have H3 := ((H2.call1 (i := 1) rfl hk3).call1 (i := 0) rfl hm).pick [3, 2] (by decide)
  refine ops_val (ex_not rfl) ?_
  refine ops_nil ?_
  change Run _ _ _ _ [_, _, _, _, _, _, _, _, _] _
  refine run_cond rfl (fun hb7 => ?_) (fun hb7 => ?_)
  · have hf0 : f ≠ 0 := by simpa using hb7
    have hz0 : (numOf (b.drop i)).1 = 0 := by omega
    refine run_seq ?_
    refine run_region ?_
    refine ops_val (ex_assign rfl) ?_
    refine ops_nil ?_
    change Run _ _ _ _ [_, _, _, _, _, _, _, _, _] _
    refine run_ret ?_
    refine fin_ret1 rfl rfl ?_
    have hs : numStep b i e = ((numOf (b.drop i)).1, i + (numOf (b.drop i)).2.1, (numOf (b.drop i)).2.2) := if_pos he
    rw [hs]
    rw [hk1, hk2] at H3
    rw [hz0]
    exact ⟨rfl, H3.pick [0] (by decide)⟩
  · skip
    refine run_skip ?_
    refine run_seq ?_
    refine run_region ?_
    refine ops_val (ex_load ty31 rfl (H3.cell (i := 1) rfl rfl)) ?_
    refine ops_val (ex_assign rfl) ?_
    refine ops_nil ?_
    change Run _ _ _ _ [_, _, _, _, _, _, _, _, _] _
    refine run_ret ?_
    refine fin_ret1 rfl rfl ?_
    have hs : numStep b i e = ((numOf (b.drop i)).1, i + (numOf (b.drop i)).2.1, (numOf (b.drop i)).2.2) := if_pos he
    rw [hs]
    rw [hk1, hk2] at H3
    exact ⟨rfl, H3.pick [0] (by decide)⟩
set_option maxRecDepth 100000 in
set_option maxHeartbeats 4000000 in
theorem num_bad (gr : Nat) (A : Option Addr) (c : Nat) (b : List UInt8) (i e : Nat) (w0 : World) (hR : Rdr w0 gr A c b i e) (he : e ≠ 0) :
    Does Tryd.prog 28 #[.pointer (some ⟨gr, 0, none⟩)] w0 (fun r w' => r = .int .u64 ((numStep b i e).1 : Int) ∧ Hp w0 w' [gr] [(some gr, 51, rc A b c (numStep b i e).2.1 (numStep b i e).2.2)]) := by
  refine does_of Tryd.func28 Tryd.ntmps28 rfl ?_
  change Run _ _ _ _ [.pointer (some ⟨gr, 0, none⟩), undef, undef, undef, undef, undef, undef, undef, undef] _
  have H := Hp.old hR.row
  have hle := hR.le
  have hln := hR.len
  have hcp := hR.cap
  refine run_seq ?_
  refine run_region ?_
  refine ops_val (ex_assign rfl) ?_
  refine ops_nil ?_
  change Run _ _ _ _ [_, _, _, _, _, _, _, _, _] _
  refine run_seq ?_
  refine run_region ?_
  refine ops_alloc ty31 H ?_
  intro w1 g1 H1 hg1
  refine ops_store1 ty31 H1 1 rfl rfl rfl rfl (by first | decide | simp) rfl ?_
  intro w2 H2
  refine ops_nil ?_
  change Run _ _ _ _ [_, _, _, _, _, _, _, _, _] _
  refine run_seq ?_
  refine run_seq ?_
  refine run_region ?_
  refine ops_val (ex_move rfl) ?_
  refine ops_val (ex_makeFunc rfl rfl) ?_
  have hR1 : Rdr w2 gr A c b i e := ⟨H2.at (i := 0) rfl, hR.rd.to H2 (by intro a ha; simp; exact hR.apart a ha), hR.apart, hR.le, hR.cap, hR.len⟩
  refine ops_call_eq (ex_call gf33 rfl) (thing_bad _ gr A c b i e _ hR1 he) ?_
  refine ops_val (ex_not rfl) ?_
  refine ops_nil ?_
  change Run _ _ _ _ [_, _, _, _, _, _, _, _, _] _
  refine run_cond_true rfl ?_
  refine run_seq ?_
  refine run_region ?_
  refine ops_val (ex_assign rfl) ?_
  refine ops_nil ?_
  change Run _ _ _ _ [_, _, _, _, _, _, _, _, _] _
  refine run_ret ?_
  refine fin_ret1 rfl rfl ?_
  have hs : numStep b i e = (0, i, e) := if_neg he
  rw [hs]
  exact ⟨rfl, H2.pick [0] (by decide)⟩
theorem num_rd (gr : Nat) (A : Option Addr) (c : Nat) (b : List UInt8) (i e : Nat) (w0 : World) (hR : Rdr w0 gr A c b i e) :
    Does Tryd.prog 28 #[.pointer (some ⟨gr, 0, none⟩)] w0 (fun r w' => r = .int .u64 ((numStep b i e).1 : Int) ∧ Hp w0 w' [gr] [(some gr, 51, rc A b c (numStep b i e).2.1 (numStep b i e).2.2)]) := by
  by_cases he : e = 0
  · exact num_go gr A c b i e w0 hR he
  · exact num_bad gr A c b i e w0 hR he
set_option maxRecDepth 100000 in
set_option maxHeartbeats 4000000 in
theorem num_nil (w0 : World) :
    Does Tryd.prog 28 #[.pointer none] w0 (fun r w' => r = .int .u64 0 ∧ Hp w0 w' [] []) := by
  refine does_of Tryd.func28 Tryd.ntmps28 rfl ?_
  change Run _ _ _ _ [.pointer none, undef, undef, undef, undef, undef, undef, undef, undef] _
  have H := Hp.refl w0
  refine run_seq ?_
  refine run_region ?_
  refine ops_val (ex_assign rfl) ?_
  refine ops_nil ?_
  change Run _ _ _ _ [_, _, _, _, _, _, _, _, _] _
  refine run_seq ?_
  refine run_region ?_
  refine ops_alloc ty31 H ?_
  intro w1 g1 H1 hg1
  refine ops_store1 ty31 H1 0 rfl rfl rfl rfl (by first | decide | simp) rfl ?_
  intro w2 H2
  refine ops_nil ?_
  change Run _ _ _ _ [_, _, _, _, _, _, _, _, _] _
  refine run_seq ?_
  refine run_seq ?_
  refine run_region ?_
  refine ops_val (ex_move rfl) ?_
  refine ops_val (ex_makeFunc rfl rfl) ?_
  refine ops_call_eq (ex_call gf33 rfl) (thing_nil _ _) ?_
  refine ops_val (ex_not rfl) ?_
  refine ops_nil ?_
  change Run _ _ _ _ [_, _, _, _, _, _, _, _, _] _
  refine run_cond_true rfl ?_
  refine run_seq ?_
  refine run_region ?_
  refine ops_val (ex_assign rfl) ?_
  refine ops_nil ?_
  change Run _ _ _ _ [_, _, _, _, _, _, _, _, _] _
  refine run_ret ?_
  refine fin_ret1 rfl rfl ?_
  exact ⟨rfl, H2.pick [] (by decide)⟩
set_option maxRecDepth 100000 in
set_option maxHeartbeats 4000000 in
theorem end_rd (gr : Nat) (A : Option Addr) (c : Nat) (b : List UInt8) (i e : Nat) (w0 : World) (hR : Rdr w0 gr A c b i e) :
    Does Tryd.prog 29 #[.pointer (some ⟨gr, 0, none⟩)] w0 (fun r w' => r = .int .i64 ((if e = 0 ∧ i < b.length then 24 else e : Nat) : Int) ∧ Hp w0 w' [] []) := by
  refine does_of Tryd.func29 Tryd.ntmps29 rfl ?_
  change Run _ _ _ _ [.pointer (some ⟨gr, 0, none⟩), undef, undef, undef, undef, undef, undef, undef, undef, undef, undef, undef, undef, undef, undef, undef, undef, undef, undef, undef, undef, undef, undef, undef, undef, undef] _
  have H := Hp.old hR.row
  have hle := hR.le
  have hln := hR.len
  have hcp := hR.cap
  have Hz := Hp.refl w0
  refine run_seq ?_
  refine run_region ?_
  refine ops_val (ex_assign rfl) ?_
  refine ops_nil ?_
  change Run _ _ _ _ [_, _, _, _, _, _, _, _, _, _, _, _, _, _, _, _, _, _, _, _, _, _, _, _, _, _] _
  refine run_seq ?_
  refine run_seq ?_
  refine run_region ?_
  refine ops_val (ex_move rfl) ?_
  refine ops_false (ex_eql_nil_ptr Tryd.underlying44 rfl) (by simp) ?_
  refine ops_nil ?_
  change Run _ _ _ _ [_, _, _, _, _, _, _, _, _, _, _, _, _, _, _, _, _, _, _, _, _, _, _, _, _, _] _
  refine run_cond_false rfl ?_
  refine run_skip ?_
  refine run_seq ?_
  refine run_seq ?_
  refine run_still mixed (by kernel_rfl) ?_
  rintro w1 hw1
  have H1 := Hp.drew H; rw [← hw1] at H1
  refine still_val (ex_move rfl) ?_
  refine still_val (ex_nilCheck rfl) ?_
  refine still_val (ex_fieldAddr fl51_2 rfl) ?_
  refine still_val (ex_load ty24 rfl (H1.cell (i := 0) rfl rfl)) ?_
  change Still _ _ _ _ _ _ [_, _, _, _, _, _, _, _, _, _, _, _, _, _, _, _, _, _, _, _, _, _, _, _, _, _]
  refine still_test (ex_eql rfl rfl) (fun hp9 => ?_) (fun hp9 => ?_)
  · skip
    refine still_val (ex_move rfl) ?_
    refine still_yes rfl ?_
    refine still_val (ex_move rfl) ?_
    change Still _ _ _ _ _ _ [_, _, _, _, _, _, _, _, _, _, _, _, _, _, _, _, _, _, _, _, _, _, _, _, _, _]
    refine still_yes rfl ?_
    refine still_val (ex_nilCheck rfl) ?_
    refine still_yes rfl ?_
    refine still_val (ex_fieldAddr fl51_1 rfl) ?_
    change Still _ _ _ _ _ _ [_, _, _, _, _, _, _, _, _, _, _, _, _, _, _, _, _, _, _, _, _, _, _, _, _, _]
    refine still_yes rfl ?_
    refine still_val (ex_load ty3 rfl (H1.cell (i := 0) rfl rfl)) ?_
    refine still_yes rfl ?_
    refine still_val (ex_move rfl) ?_
    change Still _ _ _ _ _ _ [_, _, _, _, _, _, _, _, _, _, _, _, _, _, _, _, _, _, _, _, _, _, _, _, _, _]
    refine still_yes rfl ?_
    refine still_val (ex_nilCheck rfl) ?_
    refine still_yes rfl ?_
    refine still_val (ex_fieldAddr fl51_0 rfl) ?_
    change Still _ _ _ _ _ _ [_, _, _, _, _, _, _, _, _, _, _, _, _, _, _, _, _, _, _, _, _, _, _, _, _, _]
    refine still_yes rfl ?_
    refine still_val (ex_load ty22 rfl (H1.cell (i := 0) rfl rfl)) ?_
    refine still_yes rfl ?_
    refine still_val (ex_len_slice Tryd.underlying22 rfl) ?_
    change Still _ _ _ _ _ _ [_, _, _, _, _, _, _, _, _, _, _, _, _, _, _, _, _, _, _, _, _, _, _, _, _, _]
    refine still_yes rfl ?_
    refine still_test (ex_lss rfl rfl) (fun hp20 => ?_) (fun hp20 => ?_)
    · skip
      refine still_val (ex_pick_t rfl rfl) ?_
      refine still_nil ?_
      change Run _ _ _ _ [_, _, _, _, _, _, _, _, _, _, _, _, _, _, _, _, _, _, _, _, _, _, _, _, _, _] _
      refine run_cond_true rfl ?_
      refine run_seq ?_
      refine run_region ?_
      refine ops_val (ex_assign rfl) ?_
      refine ops_nil ?_
      change Run _ _ _ _ [_, _, _, _, _, _, _, _, _, _, _, _, _, _, _, _, _, _, _, _, _, _, _, _, _, _] _
      refine run_ret ?_
      refine fin_ret1 rfl rfl ?_
      rw [if_pos (by omega)]
      exact ⟨rfl, by rw [hw1]; exact (Hp.refl w0).drew⟩
    · skip
      refine still_val (ex_pick_t rfl rfl) ?_
      refine still_nil ?_
      change Run _ _ _ _ [_, _, _, _, _, _, _, _, _, _, _, _, _, _, _, _, _, _, _, _, _, _, _, _, _, _] _
      refine run_cond_false rfl ?_
      refine run_skip ?_
      refine run_seq ?_
      refine run_region ?_
      refine ops_val (ex_move rfl) ?_
      refine ops_val (ex_nilCheck rfl) ?_
      refine ops_val (ex_fieldAddr fl51_2 rfl) ?_
      refine ops_val (ex_load ty24 rfl (H1.cell (i := 0) rfl rfl)) ?_
      change Ops _ _ _ _ _ _ [_, _, _, _, _, _, _, _, _, _, _, _, _, _, _, _, _, _, _, _, _, _, _, _, _, _] _
      refine ops_val (ex_assign rfl) ?_
      refine ops_nil ?_
      change Run _ _ _ _ [_, _, _, _, _, _, _, _, _, _, _, _, _, _, _, _, _, _, _, _, _, _, _, _, _, _] _
      refine run_ret ?_
      refine fin_ret1 rfl rfl ?_
      rw [if_neg (by omega)]
      exact ⟨rfl, by rw [hw1]; exact (Hp.refl w0).drew⟩
  · skip
    refine still_val (ex_move rfl) ?_
    refine still_no rfl ?_
    change Still _ _ _ _ _ _ [_, _, _, _, _, _, _, _, _, _, _, _, _, _, _, _, _, _, _, _, _, _, _, _, _, _]
    refine still_no rfl ?_
    refine still_no rfl ?_
    change Still _ _ _ _ _ _ [_, _, _, _, _, _, _, _, _, _, _, _, _, _, _, _, _, _, _, _, _, _, _, _, _, _]
    refine still_no rfl ?_
    refine still_no rfl ?_
    change Still _ _ _ _ _ _ [_, _, _, _, _, _, _, _, _, _, _, _, _, _, _, _, _, _, _, _, _, _, _, _, _, _]
    refine still_no rfl ?_
    refine still_no rfl ?_
    change Still _ _ _ _ _ _ [_, _, _, _, _, _, _, _, _, _, _, _, _, _, _, _, _, _, _, _, _, _, _, _, _, _]
    refine still_no rfl ?_
    refine still_no rfl ?_
    change Still _ _ _ _ _ _ [_, _, _, _, _, _, _, _, _, _, _, _, _, _, _, _, _, _, _, _, _, _, _, _, _, _]
    refine still_no rfl ?_
    refine still_val (ex_pick_f rfl rfl) ?_
    refine still_nil ?_
    change Run _ _ _ _ [_, _, _, _, _, _, _, _, _, _, _, _, _, _, _, _, _, _, _, _, _, _, _, _, _, _] _
    refine run_cond_false rfl ?_
    refine run_skip ?_
    refine run_seq ?_
    refine run_region ?_
    refine ops_val (ex_move rfl) ?_
    refine ops_val (ex_nilCheck rfl) ?_
    refine ops_val (ex_fieldAddr fl51_2 rfl) ?_
    refine ops_val (ex_load ty24 rfl (H1.cell (i := 0) rfl rfl)) ?_
    change Ops _ _ _ _ _ _ [_, _, _, _, _, _, _, _, _, _, _, _, _, _, _, _, _, _, _, _, _, _, _, _, _, _] _
    refine ops_val (ex_assign rfl) ?_
    refine ops_nil ?_
    change Run _ _ _ _ [_, _, _, _, _, _, _, _, _, _, _, _, _, _, _, _, _, _, _, _, _, _, _, _, _, _] _
    refine run_ret ?_
    refine fin_ret1 rfl rfl ?_
    rw [if_neg (by omega)]
    exact ⟨rfl, by rw [hw1]; exact (Hp.refl w0).drew⟩
set_option maxRecDepth 100000 in
set_option maxHeartbeats 4000000 in
theorem end_nil (w0 : World) :
    Does Tryd.prog 29 #[.pointer none] w0 (fun r w' => r = .int .i64 2 ∧ w' = w0) := by
  refine does_of Tryd.func29 Tryd.ntmps29 rfl ?_
  change Run _ _ _ _ [.pointer none, undef, undef, undef, undef, undef, undef, undef, undef, undef, undef, undef, undef, undef, undef, undef, undef, undef, undef, undef, undef, undef, undef, undef, undef, undef] _
  have H := Hp.refl w0
  refine run_seq ?_
  refine run_region ?_
  refine ops_val (ex_assign rfl) ?_
  refine ops_nil ?_
  change Run _ _ _ _ [_, _, _, _, _, _, _, _, _, _, _, _, _, _, _, _, _, _, _, _, _, _, _, _, _, _] _
  refine run_seq ?_
  refine run_seq ?_
  refine run_region ?_
  refine ops_val (ex_move rfl) ?_
  refine ops_true (ex_eql_nil_ptr Tryd.underlying44 rfl) (rfl) ?_
  refine ops_nil ?_
  change Run _ _ _ _ [_, _, _, _, _, _, _, _, _, _, _, _, _, _, _, _, _, _, _, _, _, _, _, _, _, _] _
  refine run_cond_true rfl ?_
  refine run_seq ?_
  refine run_region ?_
  refine ops_val (ex_assign rfl) ?_
  refine ops_nil ?_
  change Run _ _ _ _ [_, _, _, _, _, _, _, _, _, _, _, _, _, _, _, _, _, _, _, _, _, _, _, _, _, _] _
  refine run_ret ?_
  refine fin_ret1 rfl rfl ?_
  exact ⟨rfl, rfl⟩
end Go.Proofs.YtlglenbmpikhmaaDoor
