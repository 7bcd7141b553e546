/- Walks of layer 2, printed by wip/gen/codec.py. -/
import Derived.Test.YtoeobicpdeklaaaGreatNrm
import Derived.Test.YtoeobicpdeklaaaGreatCodecB
namespace Go.Proofs.YtoeobicpdeklaaaGreat
open Go Go.RowKit
set_option linter.unusedVariables false
attribute [local irreducible] Still Ops Does Cd
set_option maxRecDepth 100000 in
set_option maxHeartbeats 4000000 in
theorem new_any (A : Option Addr) (b : List UInt8) (c : Nat) (w0 : World) (hr : Rd w0 A b.length 1 (u8s b)) (hb : b.length ≤ 211106232532900) :
    Does Tryz.prog 56 #[.slice A b.length c] w0 (fun r w' => NewRd w0 w' r b) := by
  refine does_of Tryz.func56 Tryz.ntmps56 rfl ?_
  change Run _ _ _ _ [.slice A b.length c, undef, undef, undef, undef, undef, undef] _
  have H := Hp.refl w0
  refine run_seq ?_
  refine run_region ?_
  refine ops_val (ex_assign rfl) ?_
  refine ops_nil ?_
  change Run _ _ _ _ [_, _, _, _, _, _, _] _
  refine run_seq ?_
  refine run_region ?_
  refine ops_val (ex_move rfl) ?_
  refine ops_call_own (ex_call gf88 rfl) (clone_any A b c _ (hr.to0 H) (by omega)) ?_
  intro w1 g1 c1 sp1 hm1 hc1 hg1 Hc
  have H1 := H.call0 Hc
  refine ops_val (ex_build ty159 pl159 rfl rfl) ?_
  refine ops_box rfl rfl H1 ?_
  intro w2 g2 H2 hg2
  change Ops _ _ _ _ _ _ [_, _, _, _, _, _, _] _
  refine ops_val (ex_assign rfl) ?_
  refine ops_nil ?_
  change Run _ _ _ _ [_, _, _, _, _, _, _] _
  refine run_ret ?_
  refine fin_ret1 rfl rfl ?_
  exact ⟨g2, g1, c1, sp1, rfl, hm1, hc1, hg1, H2.pick [1, 0] (by decide)⟩
set_option maxRecDepth 100000 in
set_option maxHeartbeats 4000000 in
theorem num_go (gr : Nat) (A : Option Addr) (c : Nat) (b : List UInt8) (i e : Nat) (w0 : World) (hR : Rdr w0 gr A c b i e) (he : e = 0) :
    Does Tryz.prog 91 #[.pointer (some ⟨gr, 0, none⟩)] w0 (fun r w' => r = .int .u64 ((numStep b i e).1 : Int) ∧ Hp w0 w' [gr] [(some gr, 159, rc A b c (numStep b i e).2.1 (numStep b i e).2.2)]) := by
  refine does_of Tryz.func91 Tryz.ntmps91 rfl ?_
  change Run _ _ _ _ [.pointer (some ⟨gr, 0, none⟩), undef, undef, undef, undef, undef, undef, undef, undef] _
  have H := Hp.old hR.row
  have hle := hR.le
  have hln := hR.len
  have hcp := hR.cap
  refine run_seq ?_
  refine run_region ?_
  refine ops_val (ex_assign rfl) ?_
  refine ops_nil ?_
  change Run _ _ _ _ [_, _, _, _, _, _, _, _, _] _
  refine run_seq ?_
  refine run_region ?_
  refine ops_alloc ty136 H ?_
  intro w1 g1 H1 hg1
  refine ops_store1 ty136 H1 1 rfl rfl rfl rfl (by first | decide | simp) rfl ?_
  intro w2 H2
  refine ops_nil ?_
  change Run _ _ _ _ [_, _, _, _, _, _, _, _, _] _
  refine run_seq ?_
  refine run_seq ?_
  refine run_region ?_
  refine ops_val (ex_move rfl) ?_
  refine ops_val (ex_makeFunc rfl rfl) ?_
  have hR1 : Rdr w2 gr A c b i e := ⟨H2.at (i := 0) rfl, hR.rd.to H2 (by intro a ha; simp; exact hR.apart a ha), hR.apart, hR.le, hR.cap, hR.len⟩
  have hgv := H2.at (i := 1) rfl
  have hne : gr ≠ g1 := fun h => absurd (H2.apart 0 1 _ _ gr rfl rfl rfl (by rw [h])) (by decide)
  have hbd := numOf_bd (b.drop i)
  have hdl : (b.drop i).length = b.length - i := List.length_drop
  refine ops_thing (ex_call gf92 rfl) (thing_go gr A c b i e _ hR1 he 107 [.pointer (some ⟨g1, 0, none⟩)] gf107 (fun k f wz => k = (numOf (b.drop i)).2.1 ∧ f = (numOf (b.drop i)).2.2 ∧ Hp w2 wz [g1] [(some g1, 136, [.int .u64 ((numOf (b.drop i)).1 : Int)])]) (fun w1x H1x => (num1_any g1 w1x (H1x.keep hgv (by simp)) _ (b.drop i) _ ((hR1.rd.to0 H1x).tail hle) (by omega)).mono fun r w2 hh => ⟨_, _, hh.1, rfl, rfl, H1x.then hh.2⟩) (fun k f w2 hh => hh.2.2.keep hR1.row (by simp [hne])) (fun k f w2 hh => by obtain ⟨h1, h2, _⟩ := hh; omega) (fun k f w2 hh h0 => by obtain ⟨h1, h2, _⟩ := hh; omega)) ?_
  intro k f w2x w3 hk hm
  obtain ⟨hk1, hk2, hk3⟩ := hk
  have H3 := ((H2.call1 (i := 1) rfl hk3).call1 (i := 0) rfl hm).pick [3, 2] (by decide)
  refine ops_val (ex_not rfl) ?_
  refine ops_nil ?_
  change Run _ _ _ _ [_, _, _, _, _, _, _, _, _] _
  refine run_cond rfl (fun hb7 => ?_) (fun hb7 => ?_)
  · have hf0 : f ≠ 0 := by simpa using hb7
    have hz0 : (numOf (b.drop i)).1 = 0 := by omega
    refine run_seq ?_
    refine run_region ?_
    refine ops_val (ex_assign rfl) ?_
    refine ops_nil ?_
    change Run _ _ _ _ [_, _, _, _, _, _, _, _, _] _
    refine run_ret ?_
    refine fin_ret1 rfl rfl ?_
    have hs : numStep b i e = ((numOf (b.drop i)).1, i + (numOf (b.drop i)).2.1, (numOf (b.drop i)).2.2) := if_pos he
    rw [hs]
    rw [hk1, hk2] at H3
    rw [hz0]
    exact ⟨rfl, H3.pick [0] (by decide)⟩
  · skip
    refine run_skip ?_
    refine run_seq ?_
    refine run_region ?_
    refine ops_val (ex_load ty136 rfl (H3.cell (i := 1) rfl rfl)) ?_
    refine ops_val (ex_assign rfl) ?_
    refine ops_nil ?_
    change Run _ _ _ _ [_, _, _, _, _, _, _, _, _] _
    refine run_ret ?_
    refine fin_ret1 rfl rfl ?_
    have hs : numStep b i e = ((numOf (b.drop i)).1, i + (numOf (b.drop i)).2.1, (numOf (b.drop i)).2.2) := if_pos he
    rw [hs]
    rw [hk1, hk2] at H3
    exact ⟨rfl, H3.pick [0] (by decide)⟩
set_option maxRecDepth 100000 in
set_option maxHeartbeats 4000000 in
theorem num_bad (gr : Nat) (A : Option Addr) (c : Nat) (b : List UInt8) (i e : Nat) (w0 : World) (hR : Rdr w0 gr A c b i e) (he : e ≠ 0) :
    Does Tryz.prog 91 #[.pointer (some ⟨gr, 0, none⟩)] w0 (fun r w' => r = .int .u64 ((numStep b i e).1 : Int) ∧ Hp w0 w' [gr] [(some gr, 159, rc A b c (numStep b i e).2.1 (numStep b i e).2.2)]) := by
  refine does_of Tryz.func91 Tryz.ntmps91 rfl ?_
  change Run _ _ _ _ [.pointer (some ⟨gr, 0, none⟩), undef, undef, undef, undef, undef, undef, undef, undef] _
  have H := Hp.old hR.row
  have hle := hR.le
  have hln := hR.len
  have hcp := hR.cap
  refine run_seq ?_
  refine run_region ?_
  refine ops_val (ex_assign rfl) ?_
  refine ops_nil ?_
  change Run _ _ _ _ [_, _, _, _, _, _, _, _, _] _
  refine run_seq ?_
  refine run_region ?_
  refine ops_alloc ty136 H ?_
  intro w1 g1 H1 hg1
  refine ops_store1 ty136 H1 1 rfl rfl rfl rfl (by first | decide | simp) rfl ?_
  intro w2 H2
  refine ops_nil ?_
  change Run _ _ _ _ [_, _, _, _, _, _, _, _, _] _
  refine run_seq ?_
  refine run_seq ?_
  refine run_region ?_
  refine ops_val (ex_move rfl) ?_
  refine ops_val (ex_makeFunc rfl rfl) ?_
  have hR1 : Rdr w2 gr A c b i e := ⟨H2.at (i := 0) rfl, hR.rd.to H2 (by intro a ha; simp; exact hR.apart a ha), hR.apart, hR.le, hR.cap, hR.len⟩
  refine ops_call_eq (ex_call gf92 rfl) (thing_bad _ gr A c b i e _ hR1 he) ?_
  refine ops_val (ex_not rfl) ?_
  refine ops_nil ?_
  change Run _ _ _ _ [_, _, _, _, _, _, _, _, _] _
  refine run_cond_true rfl ?_
  refine run_seq ?_
  refine run_region ?_
  refine ops_val (ex_assign rfl) ?_
  refine ops_nil ?_
  change Run _ _ _ _ [_, _, _, _, _, _, _, _, _] _
  refine run_ret ?_
  refine fin_ret1 rfl rfl ?_
  have hs : numStep b i e = (0, i, e) := if_neg he
  rw [hs]
  exact ⟨rfl, H2.pick [0] (by decide)⟩
theorem num_rd (gr : Nat) (A : Option Addr) (c : Nat) (b : List UInt8) (i e : Nat) (w0 : World) (hR : Rdr w0 gr A c b i e) :
    Does Tryz.prog 91 #[.pointer (some ⟨gr, 0, none⟩)] w0 (fun r w' => r = .int .u64 ((numStep b i e).1 : Int) ∧ Hp w0 w' [gr] [(some gr, 159, rc A b c (numStep b i e).2.1 (numStep b i e).2.2)]) := by
  by_cases he : e = 0
  · exact num_go gr A c b i e w0 hR he
  · exact num_bad gr A c b i e w0 hR he
set_option maxRecDepth 100000 in
set_option maxHeartbeats 4000000 in
theorem num_nil (w0 : World) :
    Does Tryz.prog 91 #[.pointer none] w0 (fun r w' => r = .int .u64 0 ∧ Hp w0 w' [] []) := by
  refine does_of Tryz.func91 Tryz.ntmps91 rfl ?_
  change Run _ _ _ _ [.pointer none, undef, undef, undef, undef, undef, undef, undef, undef] _
  have H := Hp.refl w0
  refine run_seq ?_
  refine run_region ?_
  refine ops_val (ex_assign rfl) ?_
  refine ops_nil ?_
  change Run _ _ _ _ [_, _, _, _, _, _, _, _, _] _
  refine run_seq ?_
  refine run_region ?_
  refine ops_alloc ty136 H ?_
  intro w1 g1 H1 hg1
  refine ops_store1 ty136 H1 0 rfl rfl rfl rfl (by first | decide | simp) rfl ?_
  intro w2 H2
  refine ops_nil ?_
  change Run _ _ _ _ [_, _, _, _, _, _, _, _, _] _
  refine run_seq ?_
  refine run_seq ?_
  refine run_region ?_
  refine ops_val (ex_move rfl) ?_
  refine ops_val (ex_makeFunc rfl rfl) ?_
  refine ops_call_eq (ex_call gf92 rfl) (thing_nil _ _) ?_
  refine ops_val (ex_not rfl) ?_
  refine ops_nil ?_
  change Run _ _ _ _ [_, _, _, _, _, _, _, _, _] _
  refine run_cond_true rfl ?_
  refine run_seq ?_
  refine run_region ?_
  refine ops_val (ex_assign rfl) ?_
  refine ops_nil ?_
  change Run _ _ _ _ [_, _, _, _, _, _, _, _, _] _
  refine run_ret ?_
  refine fin_ret1 rfl rfl ?_
  exact ⟨rfl, H2.pick [] (by decide)⟩
set_option maxRecDepth 100000 in
set_option maxHeartbeats 4000000 in
theorem flag_go (gr : Nat) (A : Option Addr) (c : Nat) (b : List UInt8) (i e : Nat) (w0 : World) (hR : Rdr w0 gr A c b i e) (he : e = 0) :
    Does Tryz.prog 67 #[.pointer (some ⟨gr, 0, none⟩)] w0 (fun r w' => r = .bool (flagStep b i e).1 ∧ Hp w0 w' [gr] [(some gr, 159, rc A b c (flagStep b i e).2.1 (flagStep b i e).2.2)]) := by
  refine does_of Tryz.func67 Tryz.ntmps67 rfl ?_
  change Run _ _ _ _ [.pointer (some ⟨gr, 0, none⟩), undef, undef, undef, undef, undef, undef, undef] _
  have H := Hp.old hR.row
  have hle := hR.le
  have hln := hR.len
  have hcp := hR.cap
  refine run_seq ?_
  refine run_region ?_
  refine ops_val (ex_assign rfl) ?_
  refine ops_nil ?_
  change Run _ _ _ _ [_, _, _, _, _, _, _, _] _
  refine run_seq ?_
  refine run_region ?_
  refine ops_alloc ty4 H ?_
  intro w1 g1 H1 hg1
  refine ops_store1 ty4 H1 1 rfl rfl rfl rfl (by first | decide | simp) rfl ?_
  intro w2 H2
  refine ops_nil ?_
  change Run _ _ _ _ [_, _, _, _, _, _, _, _] _
  refine run_seq ?_
  refine run_region ?_
  refine ops_val (ex_move rfl) ?_
  refine ops_val (ex_makeFunc rfl rfl) ?_
  have hR1 : Rdr w2 gr A c b i e := ⟨H2.at (i := 0) rfl, hR.rd.to H2 (by intro a ha; simp; exact hR.apart a ha), hR.apart, hR.le, hR.cap, hR.len⟩
  have hgv := H2.at (i := 1) rfl
  have hne : gr ≠ g1 := fun h => absurd (H2.apart 0 1 _ _ gr rfl rfl rfl (by rw [h])) (by decide)
  have hbd := flagOf_bd (b.drop i)
  have hdl : (b.drop i).length = b.length - i := List.length_drop
  refine ops_thing (ex_call gf92 rfl) (thing_go gr A c b i e _ hR1 he 93 [.pointer (some ⟨g1, 0, none⟩)] gf93 (fun k f wz => k = (flagOf (b.drop i)).2.1 ∧ f = (flagOf (b.drop i)).2.2 ∧ Hp w2 wz [g1] [(some g1, 4, [.bool (flagOf (b.drop i)).1])]) (fun w1x H1x => (flag1_any g1 w1x (H1x.keep hgv (by simp)) _ (b.drop i) _ ((hR1.rd.to0 H1x).tail hle) (by omega)).mono fun r w2 hh => ⟨_, _, hh.1, rfl, rfl, H1x.then hh.2⟩) (fun k f w2 hh => hh.2.2.keep hR1.row (by simp [hne])) (fun k f w2 hh => by obtain ⟨h1, h2, _⟩ := hh; omega) (fun k f w2 hh h0 => by obtain ⟨h1, h2, _⟩ := hh; omega)) ?_
  intro k f w2x w3 hk hm
  obtain ⟨hk1, hk2, hk3⟩ := hk
  have H3 := ((H2.call1 (i := 1) rfl hk3).call1 (i := 0) rfl hm).pick [3, 2] (by decide)
  refine ops_nil ?_
  change Run _ _ _ _ [_, _, _, _, _, _, _, _] _
  refine run_seq ?_
  refine run_region ?_
  refine ops_val (ex_load ty4 rfl (H3.cell (i := 1) rfl rfl)) ?_
  refine ops_val (ex_assign rfl) ?_
  refine ops_nil ?_
  change Run _ _ _ _ [_, _, _, _, _, _, _, _] _
  refine run_ret ?_
  refine fin_ret1 rfl rfl ?_
  have hs : flagStep b i e = ((flagOf (b.drop i)).1, i + (flagOf (b.drop i)).2.1, (flagOf (b.drop i)).2.2) := if_pos he
  rw [hs]
  rw [hk1, hk2] at H3
  exact ⟨rfl, H3.pick [0] (by decide)⟩
set_option maxRecDepth 100000 in
set_option maxHeartbeats 4000000 in
theorem flag_bad (gr : Nat) (A : Option Addr) (c : Nat) (b : List UInt8) (i e : Nat) (w0 : World) (hR : Rdr w0 gr A c b i e) (he : e ≠ 0) :
    Does Tryz.prog 67 #[.pointer (some ⟨gr, 0, none⟩)] w0 (fun r w' => r = .bool (flagStep b i e).1 ∧ Hp w0 w' [gr] [(some gr, 159, rc A b c (flagStep b i e).2.1 (flagStep b i e).2.2)]) := by
  refine does_of Tryz.func67 Tryz.ntmps67 rfl ?_
  change Run _ _ _ _ [.pointer (some ⟨gr, 0, none⟩), undef, undef, undef, undef, undef, undef, undef] _
  have H := Hp.old hR.row
  have hle := hR.le
  have hln := hR.len
  have hcp := hR.cap
  refine run_seq ?_
  refine run_region ?_
  refine ops_val (ex_assign rfl) ?_
  refine ops_nil ?_
  change Run _ _ _ _ [_, _, _, _, _, _, _, _] _
  refine run_seq ?_
  refine run_region ?_
  refine ops_alloc ty4 H ?_
  intro w1 g1 H1 hg1
  refine ops_store1 ty4 H1 1 rfl rfl rfl rfl (by first | decide | simp) rfl ?_
  intro w2 H2
  refine ops_nil ?_
  change Run _ _ _ _ [_, _, _, _, _, _, _, _] _
  refine run_seq ?_
  refine run_region ?_
  refine ops_val (ex_move rfl) ?_
  refine ops_val (ex_makeFunc rfl rfl) ?_
  have hR1 : Rdr w2 gr A c b i e := ⟨H2.at (i := 0) rfl, hR.rd.to H2 (by intro a ha; simp; exact hR.apart a ha), hR.apart, hR.le, hR.cap, hR.len⟩
  refine ops_call_eq (ex_call gf92 rfl) (thing_bad _ gr A c b i e _ hR1 he) ?_
  refine ops_nil ?_
  change Run _ _ _ _ [_, _, _, _, _, _, _, _] _
  refine run_seq ?_
  refine run_region ?_
  refine ops_val (ex_load ty4 rfl (H2.cell (i := 1) rfl rfl)) ?_
  refine ops_val (ex_assign rfl) ?_
  refine ops_nil ?_
  change Run _ _ _ _ [_, _, _, _, _, _, _, _] _
  refine run_ret ?_
  refine fin_ret1 rfl rfl ?_
  have hs : flagStep b i e = (false, i, e) := if_neg he
  rw [hs]
  exact ⟨rfl, H2.pick [0] (by decide)⟩
theorem flag_rd (gr : Nat) (A : Option Addr) (c : Nat) (b : List UInt8) (i e : Nat) (w0 : World) (hR : Rdr w0 gr A c b i e) :
    Does Tryz.prog 67 #[.pointer (some ⟨gr, 0, none⟩)] w0 (fun r w' => r = .bool (flagStep b i e).1 ∧ Hp w0 w' [gr] [(some gr, 159, rc A b c (flagStep b i e).2.1 (flagStep b i e).2.2)]) := by
  by_cases he : e = 0
  · exact flag_go gr A c b i e w0 hR he
  · exact flag_bad gr A c b i e w0 hR he
set_option maxRecDepth 100000 in
set_option maxHeartbeats 4000000 in
theorem flag_nil (w0 : World) :
    Does Tryz.prog 67 #[.pointer none] w0 (fun r w' => r = .bool false ∧ Hp w0 w' [] []) := by
  refine does_of Tryz.func67 Tryz.ntmps67 rfl ?_
  change Run _ _ _ _ [.pointer none, undef, undef, undef, undef, undef, undef, undef] _
  have H := Hp.refl w0
  refine run_seq ?_
  refine run_region ?_
  refine ops_val (ex_assign rfl) ?_
  refine ops_nil ?_
  change Run _ _ _ _ [_, _, _, _, _, _, _, _] _
  refine run_seq ?_
  refine run_region ?_
  refine ops_alloc ty4 H ?_
  intro w1 g1 H1 hg1
  refine ops_store1 ty4 H1 0 rfl rfl rfl rfl (by first | decide | simp) rfl ?_
  intro w2 H2
  refine ops_nil ?_
  change Run _ _ _ _ [_, _, _, _, _, _, _, _] _
  refine run_seq ?_
  refine run_region ?_
  refine ops_val (ex_move rfl) ?_
  refine ops_val (ex_makeFunc rfl rfl) ?_
  refine ops_call_eq (ex_call gf92 rfl) (thing_nil _ _) ?_
  refine ops_nil ?_
  change Run _ _ _ _ [_, _, _, _, _, _, _, _] _
  refine run_seq ?_
  refine run_region ?_
  refine ops_val (ex_load ty4 rfl (H2.cell (i := 0) rfl rfl)) ?_
  refine ops_val (ex_assign rfl) ?_
  refine ops_nil ?_
  change Run _ _ _ _ [_, _, _, _, _, _, _, _] _
  refine run_ret ?_
  refine fin_ret1 rfl rfl ?_
  exact ⟨rfl, H2.pick [] (by decide)⟩
set_option maxRecDepth 100000 in
set_option maxHeartbeats 4000000 in
theorem count_go (gr : Nat) (A : Option Addr) (c : Nat) (b : List UInt8) (i e : Nat) (w0 : World) (hR : Rdr w0 gr A c b i e) (most : Int) (hlo : -9223372036854775808 ≤ most) (hhi : most ≤ 9223372036854775807) (he : e = 0) :
    Does Tryz.prog 69 #[.pointer (some ⟨gr, 0, none⟩), .int .i64 most] w0 (fun r w' => r = .int .i64 ((countStep b most i e).1 : Int) ∧ Hp w0 w' [gr] [(some gr, 159, rc A b c (countStep b most i e).2.1 (countStep b most i e).2.2)]) := by
  refine does_of Tryz.func69 Tryz.ntmps69 rfl ?_
  change Run _ _ _ _ [.pointer (some ⟨gr, 0, none⟩), .int .i64 most, undef, undef, undef, undef, undef, undef, undef, undef, undef] _
  have H := Hp.old hR.row
  have hle := hR.le
  have hln := hR.len
  have hcp := hR.cap
  refine run_seq ?_
  refine run_region ?_
  refine ops_box rfl rfl H ?_
  intro w1 g1 H1 hg1
  refine ops_val (ex_assign rfl) ?_
  refine ops_nil ?_
  change Run _ _ _ _ [_, _, _, _, _, _, _, _, _, _, _] _
  refine run_seq ?_
  refine run_region ?_
  refine ops_alloc ty3 H1 ?_
  intro w2 g2 H2 hg2
  refine ops_store1 ty3 H2 2 rfl rfl rfl rfl (by first | decide | simp) rfl ?_
  intro w3 H3
  refine ops_nil ?_
  change Run _ _ _ _ [_, _, _, _, _, _, _, _, _, _, _] _
  refine run_seq ?_
  refine run_seq ?_
  refine run_region ?_
  refine ops_val (ex_move rfl) ?_
  refine ops_val (ex_makeFunc rfl rfl) ?_
  have hR1 : Rdr w3 gr A c b i e := ⟨H3.at (i := 0) rfl, hR.rd.to H3 (by intro a ha; simp; exact hR.apart a ha), hR.apart, hR.le, hR.cap, hR.len⟩
  have hgm := H3.at (i := 1) rfl
  have hgv := H3.at (i := 2) rfl
  have hne : gr ≠ g2 := fun h => absurd (H3.apart 0 2 _ _ gr rfl rfl rfl (by rw [h])) (by decide)
  have hbd := countedOf_bd (b.drop i) most
  have hdl : (b.drop i).length = b.length - i := List.length_drop
  refine ops_thing (ex_call gf92 rfl) (thing_go gr A c b i e _ hR1 he 94 [.pointer (some ⟨g1, 0, none⟩), .pointer (some ⟨g2, 0, none⟩)] gf94 (fun k f wz => k = (countedOf (b.drop i) most).2.1 ∧ f = (countedOf (b.drop i) most).2.2 ∧ Hp w3 wz [g2] [(some g2, 3, [.int .i64 ((countedOf (b.drop i) most).1 : Int)])]) (fun w1x H1x => (count1_any g2 w1x (H1x.keep hgv (by simp)) g1 most (H1x.keep hgm (by simp)) hlo hhi _ (b.drop i) _ ((hR1.rd.to0 H1x).tail hle) (by omega)).mono fun r w2 hh => ⟨_, _, hh.1, rfl, rfl, H1x.then hh.2⟩) (fun k f w2 hh => hh.2.2.keep hR1.row (by simp [hne])) (fun k f w2 hh => by obtain ⟨h1, h2, _⟩ := hh; omega) (fun k f w2 hh h0 => by obtain ⟨h1, h2, _⟩ := hh; omega)) ?_
  intro k f w2x w4 hk hm
  obtain ⟨hk1, hk2, hk3⟩ := hk
  have H4 := ((H3.call1 (i := 2) rfl hk3).call1 (i := 0) rfl hm).pick [4, 1, 3] (by decide)
  refine ops_val (ex_not rfl) ?_
  refine ops_nil ?_
  change Run _ _ _ _ [_, _, _, _, _, _, _, _, _, _, _] _
  refine run_cond rfl (fun hb9 => ?_) (fun hb9 => ?_)
  · have hf0 : f ≠ 0 := by simpa using hb9
    have hz0 : (countedOf (b.drop i) most).1 = 0 := by omega
    refine run_seq ?_
    refine run_region ?_
    refine ops_val (ex_assign rfl) ?_
    refine ops_nil ?_
    change Run _ _ _ _ [_, _, _, _, _, _, _, _, _, _, _] _
    refine run_ret ?_
    refine fin_ret1 rfl rfl ?_
    have hs : countStep b most i e = ((countedOf (b.drop i) most).1, i + (countedOf (b.drop i) most).2.1, (countedOf (b.drop i) most).2.2) := if_pos he
    rw [hs]
    rw [hk1, hk2] at H4
    rw [hz0]
    exact ⟨rfl, H4.pick [0] (by decide)⟩
  · skip
    refine run_skip ?_
    refine run_seq ?_
    refine run_region ?_
    refine ops_val (ex_load ty3 rfl (H4.cell (i := 2) rfl rfl)) ?_
    refine ops_val (ex_assign rfl) ?_
    refine ops_nil ?_
    change Run _ _ _ _ [_, _, _, _, _, _, _, _, _, _, _] _
    refine run_ret ?_
    refine fin_ret1 rfl rfl ?_
    have hs : countStep b most i e = ((countedOf (b.drop i) most).1, i + (countedOf (b.drop i) most).2.1, (countedOf (b.drop i) most).2.2) := if_pos he
    rw [hs]
    rw [hk1, hk2] at H4
    exact ⟨rfl, H4.pick [0] (by decide)⟩
set_option maxRecDepth 100000 in
set_option maxHeartbeats 4000000 in
theorem count_bad (gr : Nat) (A : Option Addr) (c : Nat) (b : List UInt8) (i e : Nat) (w0 : World) (hR : Rdr w0 gr A c b i e) (most : Int) (hlo : -9223372036854775808 ≤ most) (hhi : most ≤ 9223372036854775807) (he : e ≠ 0) :
    Does Tryz.prog 69 #[.pointer (some ⟨gr, 0, none⟩), .int .i64 most] w0 (fun r w' => r = .int .i64 ((countStep b most i e).1 : Int) ∧ Hp w0 w' [gr] [(some gr, 159, rc A b c (countStep b most i e).2.1 (countStep b most i e).2.2)]) := by
  refine does_of Tryz.func69 Tryz.ntmps69 rfl ?_
  change Run _ _ _ _ [.pointer (some ⟨gr, 0, none⟩), .int .i64 most, undef, undef, undef, undef, undef, undef, undef, undef, undef] _
  have H := Hp.old hR.row
  have hle := hR.le
  have hln := hR.len
  have hcp := hR.cap
  refine run_seq ?_
  refine run_region ?_
  refine ops_box rfl rfl H ?_
  intro w1 g1 H1 hg1
  refine ops_val (ex_assign rfl) ?_
  refine ops_nil ?_
  change Run _ _ _ _ [_, _, _, _, _, _, _, _, _, _, _] _
  refine run_seq ?_
  refine run_region ?_
  refine ops_alloc ty3 H1 ?_
  intro w2 g2 H2 hg2
  refine ops_store1 ty3 H2 2 rfl rfl rfl rfl (by first | decide | simp) rfl ?_
  intro w3 H3
  refine ops_nil ?_
  change Run _ _ _ _ [_, _, _, _, _, _, _, _, _, _, _] _
  refine run_seq ?_
  refine run_seq ?_
  refine run_region ?_
  refine ops_val (ex_move rfl) ?_
  refine ops_val (ex_makeFunc rfl rfl) ?_
  have hR1 : Rdr w3 gr A c b i e := ⟨H3.at (i := 0) rfl, hR.rd.to H3 (by intro a ha; simp; exact hR.apart a ha), hR.apart, hR.le, hR.cap, hR.len⟩
  refine ops_call_eq (ex_call gf92 rfl) (thing_bad _ gr A c b i e _ hR1 he) ?_
  refine ops_val (ex_not rfl) ?_
  refine ops_nil ?_
  change Run _ _ _ _ [_, _, _, _, _, _, _, _, _, _, _] _
  refine run_cond_true rfl ?_
  refine run_seq ?_
  refine run_region ?_
  refine ops_val (ex_assign rfl) ?_
  refine ops_nil ?_
  change Run _ _ _ _ [_, _, _, _, _, _, _, _, _, _, _] _
  refine run_ret ?_
  refine fin_ret1 rfl rfl ?_
  have hs : countStep b most i e = (0, i, e) := if_neg he
  rw [hs]
  exact ⟨rfl, H3.pick [0] (by decide)⟩
theorem count_rd (gr : Nat) (A : Option Addr) (c : Nat) (b : List UInt8) (i e : Nat) (w0 : World) (hR : Rdr w0 gr A c b i e) (most : Int) (hlo : -9223372036854775808 ≤ most) (hhi : most ≤ 9223372036854775807) :
    Does Tryz.prog 69 #[.pointer (some ⟨gr, 0, none⟩), .int .i64 most] w0 (fun r w' => r = .int .i64 ((countStep b most i e).1 : Int) ∧ Hp w0 w' [gr] [(some gr, 159, rc A b c (countStep b most i e).2.1 (countStep b most i e).2.2)]) := by
  by_cases he : e = 0
  · exact count_go gr A c b i e w0 hR most hlo hhi he
  · exact count_bad gr A c b i e w0 hR most hlo hhi he
set_option maxRecDepth 100000 in
set_option maxHeartbeats 4000000 in
theorem count_nil (w0 : World) (most : Int) :
    Does Tryz.prog 69 #[.pointer none, .int .i64 most] w0 (fun r w' => r = .int .i64 0 ∧ Hp w0 w' [] []) := by
  refine does_of Tryz.func69 Tryz.ntmps69 rfl ?_
  change Run _ _ _ _ [.pointer none, .int .i64 most, undef, undef, undef, undef, undef, undef, undef, undef, undef] _
  have H := Hp.refl w0
  refine run_seq ?_
  refine run_region ?_
  refine ops_box rfl rfl H ?_
  intro w1 g1 H1 hg1
  refine ops_val (ex_assign rfl) ?_
  refine ops_nil ?_
  change Run _ _ _ _ [_, _, _, _, _, _, _, _, _, _, _] _
  refine run_seq ?_
  refine run_region ?_
  refine ops_alloc ty3 H1 ?_
  intro w2 g2 H2 hg2
  refine ops_store1 ty3 H2 1 rfl rfl rfl rfl (by first | decide | simp) rfl ?_
  intro w3 H3
  refine ops_nil ?_
  change Run _ _ _ _ [_, _, _, _, _, _, _, _, _, _, _] _
  refine run_seq ?_
  refine run_seq ?_
  refine run_region ?_
  refine ops_val (ex_move rfl) ?_
  refine ops_val (ex_makeFunc rfl rfl) ?_
  refine ops_call_eq (ex_call gf92 rfl) (thing_nil _ _) ?_
  refine ops_val (ex_not rfl) ?_
  refine ops_nil ?_
  change Run _ _ _ _ [_, _, _, _, _, _, _, _, _, _, _] _
  refine run_cond_true rfl ?_
  refine run_seq ?_
  refine run_region ?_
  refine ops_val (ex_assign rfl) ?_
  refine ops_nil ?_
  change Run _ _ _ _ [_, _, _, _, _, _, _, _, _, _, _] _
  refine run_ret ?_
  refine fin_ret1 rfl rfl ?_
  exact ⟨rfl, H3.pick [] (by decide)⟩
set_option maxRecDepth 100000 in
set_option maxHeartbeats 4000000 in
theorem text_go (gr : Nat) (A : Option Addr) (c : Nat) (b : List UInt8) (i e : Nat) (w0 : World) (hR : Rdr w0 gr A c b i e) (most : Int) (hlo : -9223372036854775808 ≤ most) (hhi : most ≤ 9223372036854775807) (he : e = 0) :
    Does Tryz.prog 74 #[.pointer (some ⟨gr, 0, none⟩), .int .i64 most] w0 (fun r w' => ∃ g cap sp, r = .slice (hd g) (textStep b most i e).1.length cap ∧ (textStep b most i e).1.length ≤ cap ∧ cap * 1 ≤ (u8s (textStep b most i e).1 ++ sp).length ∧ (g = none → cap = 0) ∧ Hp w0 w' [gr] [(some gr, 159, rc A b c (textStep b most i e).2.1 (textStep b most i e).2.2), (g, 5, u8s (textStep b most i e).1 ++ sp)]) := by
  refine does_of Tryz.func74 Tryz.ntmps74 rfl ?_
  change Run _ _ _ _ [.pointer (some ⟨gr, 0, none⟩), .int .i64 most, undef, undef, undef, undef, undef, undef, undef, undef] _
  have H := Hp.old hR.row
  have hle := hR.le
  have hln := hR.len
  have hcp := hR.cap
  refine run_seq ?_
  refine run_region ?_
  refine ops_box rfl rfl H ?_
  intro w1 g1 H1 hg1
  refine ops_val (ex_assign rfl) ?_
  refine ops_nil ?_
  change Run _ _ _ _ [_, _, _, _, _, _, _, _, _, _] _
  refine run_seq ?_
  refine run_region ?_
  refine ops_alloc ty29 H1 ?_
  intro w2 g2 H2 hg2
  refine ops_nil ?_
  change Run _ _ _ _ [_, _, _, _, _, _, _, _, _, _] _
  refine run_seq ?_
  refine run_region ?_
  refine ops_val (ex_move rfl) ?_
  refine ops_val (ex_makeFunc rfl rfl) ?_
  have hR1 : Rdr w2 gr A c b i e := ⟨H2.at (i := 0) rfl, hR.rd.to H2 (by intro a ha; simp; exact hR.apart a ha), hR.apart, hR.le, hR.cap, hR.len⟩
  have hgm := H2.at (i := 1) rfl
  have hgv := H2.at (i := 2) rfl
  have hne : gr ≠ g2 := fun h => absurd (H2.apart 0 2 _ _ gr rfl rfl rfl (by rw [h])) (by decide)
  have hbd := textOf_bd (b.drop i) most
  have hdl : (b.drop i).length = b.length - i := List.length_drop
  refine ops_thing (ex_call gf92 rfl) (thing_go gr A c b i e _ hR1 he 96 [.pointer (some ⟨g1, 0, none⟩), .pointer (some ⟨g2, 0, none⟩)] gf96 (fun k f wz => k = (textOf (b.drop i) most).2.1 ∧ f = (textOf (b.drop i) most).2.2 ∧ ∃ g cap sp, (textOf (b.drop i) most).1.length ≤ cap ∧ cap * 1 ≤ (u8s (textOf (b.drop i) most).1 ++ sp).length ∧ (g = none → cap = 0) ∧ Hp w2 wz [g2] [(some g2, 29, [.slice (hd g) (textOf (b.drop i) most).1.length cap]), (g, 5, u8s (textOf (b.drop i) most).1 ++ sp)]) (fun w1x H1x => (text1_any g2 w1x (H1x.keep hgv (by simp)) g1 most (H1x.keep hgm (by simp)) hlo hhi _ (b.drop i) _ ((hR1.rd.to0 H1x).tail hle) (by omega) (Nat.le_refl _)).mono fun r w2 hh => (let ⟨h1, g, cap, sp, h2, h3, h4, h5⟩ := hh; ⟨_, _, h1, rfl, rfl, g, cap, sp, h2, h3, h4, H1x.then h5⟩)) (fun k f w2 hh => (let ⟨_, _, g, cap, sp, h2, h3, h4, h5⟩ := hh; h5.keep hR1.row (by simp [hne]))) (fun k f w2 hh => by obtain ⟨h1, h2, _⟩ := hh; omega) (fun k f w2 hh h0 => by obtain ⟨h1, h2, _⟩ := hh; omega)) ?_
  intro k f w2x w3 hk hm
  obtain ⟨hk1, hk2, g, cap, sp, hk4, hk5, hk6, hk3⟩ := hk
  have H3 := ((H2.call1 (i := 2) rfl hk3).call1 (i := 0) rfl hm).pick [5, 1, 3, 4] (by decide)
  refine ops_nil ?_
  change Run _ _ _ _ [_, _, _, _, _, _, _, _, _, _] _
  refine run_seq ?_
  refine run_region ?_
  refine ops_val (ex_load ty29 rfl (H3.cell (i := 2) rfl rfl)) ?_
  refine ops_val (ex_assign rfl) ?_
  refine ops_nil ?_
  change Run _ _ _ _ [_, _, _, _, _, _, _, _, _, _] _
  refine run_ret ?_
  refine fin_ret1 rfl rfl ?_
  have hs : textStep b most i e = ((textOf (b.drop i) most).1, i + (textOf (b.drop i) most).2.1, (textOf (b.drop i) most).2.2) := if_pos he
  rw [hs]
  rw [hk1, hk2] at H3
  exact ⟨g, cap, sp, rfl, hk4, hk5, hk6, H3.pick [0, 3] (by decide)⟩
set_option maxRecDepth 100000 in
set_option maxHeartbeats 4000000 in
theorem text_bad (gr : Nat) (A : Option Addr) (c : Nat) (b : List UInt8) (i e : Nat) (w0 : World) (hR : Rdr w0 gr A c b i e) (most : Int) (hlo : -9223372036854775808 ≤ most) (hhi : most ≤ 9223372036854775807) (he : e ≠ 0) :
    Does Tryz.prog 74 #[.pointer (some ⟨gr, 0, none⟩), .int .i64 most] w0 (fun r w' => ∃ g cap sp, r = .slice (hd g) (textStep b most i e).1.length cap ∧ (textStep b most i e).1.length ≤ cap ∧ cap * 1 ≤ (u8s (textStep b most i e).1 ++ sp).length ∧ (g = none → cap = 0) ∧ Hp w0 w' [gr] [(some gr, 159, rc A b c (textStep b most i e).2.1 (textStep b most i e).2.2), (g, 5, u8s (textStep b most i e).1 ++ sp)]) := by
  refine does_of Tryz.func74 Tryz.ntmps74 rfl ?_
  change Run _ _ _ _ [.pointer (some ⟨gr, 0, none⟩), .int .i64 most, undef, undef, undef, undef, undef, undef, undef, undef] _
  have H := Hp.old hR.row
  have hle := hR.le
  have hln := hR.len
  have hcp := hR.cap
  refine run_seq ?_
  refine run_region ?_
  refine ops_box rfl rfl H ?_
  intro w1 g1 H1 hg1
  refine ops_val (ex_assign rfl) ?_
  refine ops_nil ?_
  change Run _ _ _ _ [_, _, _, _, _, _, _, _, _, _] _
  refine run_seq ?_
  refine run_region ?_
  refine ops_alloc ty29 H1 ?_
  intro w2 g2 H2 hg2
  refine ops_nil ?_
  change Run _ _ _ _ [_, _, _, _, _, _, _, _, _, _] _
  refine run_seq ?_
  refine run_region ?_
  refine ops_val (ex_move rfl) ?_
  refine ops_val (ex_makeFunc rfl rfl) ?_
  have hR1 : Rdr w2 gr A c b i e := ⟨H2.at (i := 0) rfl, hR.rd.to H2 (by intro a ha; simp; exact hR.apart a ha), hR.apart, hR.le, hR.cap, hR.len⟩
  refine ops_call_eq (ex_call gf92 rfl) (thing_bad _ gr A c b i e _ hR1 he) ?_
  refine ops_nil ?_
  change Run _ _ _ _ [_, _, _, _, _, _, _, _, _, _] _
  refine run_seq ?_
  refine run_region ?_
  refine ops_val (ex_load ty29 rfl (H2.cell (i := 2) rfl rfl)) ?_
  refine ops_val (ex_assign rfl) ?_
  refine ops_nil ?_
  change Run _ _ _ _ [_, _, _, _, _, _, _, _, _, _] _
  refine run_ret ?_
  refine fin_ret1 rfl rfl ?_
  have hs : textStep b most i e = ([], i, e) := if_neg he
  rw [hs]
  exact ⟨none, 0, [], rfl, Nat.le_refl _, by simp, fun _ => rfl, (H2.pick [0] (by decide)).nil 5⟩
theorem text_rd (gr : Nat) (A : Option Addr) (c : Nat) (b : List UInt8) (i e : Nat) (w0 : World) (hR : Rdr w0 gr A c b i e) (most : Int) (hlo : -9223372036854775808 ≤ most) (hhi : most ≤ 9223372036854775807) :
    Does Tryz.prog 74 #[.pointer (some ⟨gr, 0, none⟩), .int .i64 most] w0 (fun r w' => ∃ g cap sp, r = .slice (hd g) (textStep b most i e).1.length cap ∧ (textStep b most i e).1.length ≤ cap ∧ cap * 1 ≤ (u8s (textStep b most i e).1 ++ sp).length ∧ (g = none → cap = 0) ∧ Hp w0 w' [gr] [(some gr, 159, rc A b c (textStep b most i e).2.1 (textStep b most i e).2.2), (g, 5, u8s (textStep b most i e).1 ++ sp)]) := by
  by_cases he : e = 0
  · exact text_go gr A c b i e w0 hR most hlo hhi he
  · exact text_bad gr A c b i e w0 hR most hlo hhi he
set_option maxRecDepth 100000 in
set_option maxHeartbeats 4000000 in
theorem text_nil (w0 : World) (most : Int) :
    Does Tryz.prog 74 #[.pointer none, .int .i64 most] w0 (fun r w' => r = .slice none 0 0 ∧ Hp w0 w' [] []) := by
  refine does_of Tryz.func74 Tryz.ntmps74 rfl ?_
  change Run _ _ _ _ [.pointer none, .int .i64 most, undef, undef, undef, undef, undef, undef, undef, undef] _
  have H := Hp.refl w0
  refine run_seq ?_
  refine run_region ?_
  refine ops_box rfl rfl H ?_
  intro w1 g1 H1 hg1
  refine ops_val (ex_assign rfl) ?_
  refine ops_nil ?_
  change Run _ _ _ _ [_, _, _, _, _, _, _, _, _, _] _
  refine run_seq ?_
  refine run_region ?_
  refine ops_alloc ty29 H1 ?_
  intro w2 g2 H2 hg2
  refine ops_nil ?_
  change Run _ _ _ _ [_, _, _, _, _, _, _, _, _, _] _
  refine run_seq ?_
  refine run_region ?_
  refine ops_val (ex_move rfl) ?_
  refine ops_val (ex_makeFunc rfl rfl) ?_
  refine ops_call_eq (ex_call gf92 rfl) (thing_nil _ _) ?_
  refine ops_nil ?_
  change Run _ _ _ _ [_, _, _, _, _, _, _, _, _, _] _
  refine run_seq ?_
  refine run_region ?_
  refine ops_val (ex_load ty29 rfl (H2.cell (i := 1) rfl rfl)) ?_
  refine ops_val (ex_assign rfl) ?_
  refine ops_nil ?_
  change Run _ _ _ _ [_, _, _, _, _, _, _, _, _, _] _
  refine run_ret ?_
  refine fin_ret1 rfl rfl ?_
  exact ⟨rfl, H2.pick [] (by decide)⟩
set_option maxRecDepth 100000 in
set_option maxHeartbeats 4000000 in
theorem int_rd (gr : Nat) (A : Option Addr) (c : Nat) (b : List UInt8) (i e : Nat) (w0 : World) (hR : Rdr w0 gr A c b i e) :
    Does Tryz.prog 66 #[.pointer (some ⟨gr, 0, none⟩)] w0 (fun r w' => r = .int .i64 (unz (numStep b i e).1) ∧ Hp w0 w' [gr] [(some gr, 159, rc A b c (numStep b i e).2.1 (numStep b i e).2.2)]) := by
  refine does_of Tryz.func66 Tryz.ntmps66 rfl ?_
  refine nR16 ?_
  skip
  refine run_seq ?_
  refine run_region ?_
  refine ops_val (ex_assign rfl) ?_
  refine ops_nil ?_
  refine nR16 ?_
  refine run_seq ?_
  refine run_region ?_
  refine ops_val (ex_move rfl) ?_
  refine ops_call_val (ex_call gf91 rfl) (num_rd gr A c b i e _ hR) ?_
  intro w1 H1
  have hlt := numStep_lt b i e
  have hu : unz (numStep b i e).1 = if (numStep b i e).1 % 2 = 1 then -(((numStep b i e).1 / 2 : Nat) : Int) - 1 else (((numStep b i e).1 / 2 : Nat) : Int) := rfl
  generalize hN : (numStep b i e).1 = N at hlt hu
  refine ops_val (ex_assign rfl) ?_
  refine ops_nil ?_
  refine nR16 ?_
  refine run_seq ?_
  refine run_seq ?_
  refine run_region ?_
  refine ops_val (ex_move rfl) ?_
  refine ops_val (ex_and rfl rfl (and1 _ hlt)) ?_
  refine ops_test (ex_eql rfl rfl) (fun hp8 => ?_) (fun hp8 => ?_)
  · rw [if_pos (by omega)] at hu
    refine ops_nil ?_
    refine nR16 ?_
    refine run_cond_true rfl ?_
    refine run_seq ?_
    refine run_region ?_
    refine ops_val (ex_move rfl) ?_
    refine ops_val (ex_shr rfl rfl (by omega) (shr1 _)) ?_
    refine ops_val (ex_conv Tryz.underlying3 Tryz.underlying136 rfl (IntWalk.i64_in _ (by omega))) ?_
    refine ops_val (ex_compl rfl (compl_pos _ (by omega))) ?_
    refine nO16 ?_
    refine ops_val (ex_assign rfl) ?_
    refine ops_nil ?_
    refine nR16 ?_
    refine run_ret ?_
    refine fin_ret1 rfl rfl ?_
    refine ⟨?_, H1⟩
    rw [hu]
  · rw [if_neg (by omega)] at hu
    refine ops_nil ?_
    refine nR16 ?_
    refine run_cond_false rfl ?_
    refine run_skip ?_
    refine run_seq ?_
    refine run_region ?_
    refine ops_val (ex_move rfl) ?_
    refine ops_val (ex_shr rfl rfl (by omega) (shr1 _)) ?_
    refine ops_val (ex_conv Tryz.underlying3 Tryz.underlying136 rfl (IntWalk.i64_in _ (by omega))) ?_
    refine ops_val (ex_assign rfl) ?_
    refine ops_nil ?_
    refine nR16 ?_
    refine run_ret ?_
    refine fin_ret1 rfl rfl ?_
    refine ⟨?_, H1⟩
    rw [hu]
set_option maxRecDepth 100000 in
set_option maxHeartbeats 4000000 in
theorem int_nil (w0 : World) :
    Does Tryz.prog 66 #[.pointer none] w0 (fun r w' => r = .int .i64 0 ∧ Hp w0 w' [] []) := by
  refine does_of Tryz.func66 Tryz.ntmps66 rfl ?_
  refine nR16 ?_
  skip
  refine run_seq ?_
  refine run_region ?_
  refine ops_val (ex_assign rfl) ?_
  refine ops_nil ?_
  refine nR16 ?_
  refine run_seq ?_
  refine run_region ?_
  refine ops_val (ex_move rfl) ?_
  refine ops_call_val (ex_call gf91 rfl) (num_nil _) ?_
  intro w1 H1
  refine ops_val (ex_assign rfl) ?_
  refine ops_nil ?_
  refine nR16 ?_
  refine run_seq ?_
  refine run_seq ?_
  refine run_region ?_
  refine ops_val (ex_move rfl) ?_
  refine ops_val (ex_and rfl rfl (and1 0 (by decide))) ?_
  refine ops_false (ex_eql rfl rfl) (by omega) ?_
  refine ops_nil ?_
  refine nR16 ?_
  refine run_cond_false rfl ?_
  refine run_skip ?_
  refine run_seq ?_
  refine run_region ?_
  refine ops_val (ex_move rfl) ?_
  refine ops_val (ex_shr rfl rfl (by omega) (shr1 0)) ?_
  refine ops_val (ex_conv Tryz.underlying3 Tryz.underlying136 rfl (IntWalk.i64_in _ (by omega))) ?_
  refine ops_val (ex_assign rfl) ?_
  refine ops_nil ?_
  refine nR16 ?_
  refine run_ret ?_
  refine fin_ret1 rfl rfl ?_
  exact ⟨rfl, H1⟩
set_option maxRecDepth 100000 in
set_option maxHeartbeats 4000000 in
theorem fault_rd (gr : Nat) (A : Option Addr) (c : Nat) (b : List UInt8) (i e : Nat) (w0 : World) (hR : Rdr w0 gr A c b i e) :
    Does Tryz.prog 90 #[.pointer (some ⟨gr, 0, none⟩)] w0 (fun r w' => r = .tuple #[.int .i64 (e : Int), .int .i64 ((if e = 0 then 0 else i : Nat) : Int)] ∧ Hp w0 w' [] []) := by
  refine does_of Tryz.func90 Tryz.ntmps90 rfl ?_
  refine nR19 ?_
  have H := Hp.old hR.row
  have hle := hR.le
  have hln := hR.len
  have hcp := hR.cap
  have Hz := Hp.refl w0
  refine run_seq ?_
  refine run_region ?_
  refine ops_val (ex_assign rfl) ?_
  refine ops_val (ex_assign rfl) ?_
  refine ops_nil ?_
  refine nR19 ?_
  refine run_seq ?_
  refine run_seq ?_
  refine run_region ?_
  refine ops_val (ex_move rfl) ?_
  refine ops_false (ex_eql_nil_ptr Tryz.underlying78 rfl) (by simp) ?_
  refine ops_nil ?_
  refine nR19 ?_
  refine run_cond_false rfl ?_
  refine run_skip ?_
  refine run_seq ?_
  refine run_seq ?_
  refine run_region ?_
  refine ops_val (ex_move rfl) ?_
  refine ops_val (ex_nilCheck rfl) ?_
  refine ops_val (ex_fieldAddr fl159_2 rfl) ?_
  refine ops_val (ex_load ty32 rfl (H.cell (i := 0) rfl rfl)) ?_
  refine nO19 ?_
  refine ops_test (ex_eql rfl rfl) (fun hp10 => ?_) (fun hp10 => ?_)
  · have he : e = 0 := by omega
    refine ops_nil ?_
    refine nR19 ?_
    refine run_cond_true rfl ?_
    refine run_seq ?_
    refine run_region ?_
    refine ops_val (ex_assign rfl) ?_
    refine ops_val (ex_assign rfl) ?_
    refine ops_nil ?_
    refine nR19 ?_
    refine run_ret ?_
    refine fin_ret2 rfl rfl rfl ?_
    rw [if_pos he]
    subst he
    exact ⟨rfl, Hp.refl _⟩
  · have he : e ≠ 0 := by omega
    refine ops_nil ?_
    refine nR19 ?_
    refine run_cond_false rfl ?_
    refine run_skip ?_
    refine run_seq ?_
    refine run_still mixed (by kernel_rfl) ?_
    rintro w1 hw1
    have H1 := Hp.drew H; rw [← hw1] at H1
    refine still_val (ex_move rfl) ?_
    refine still_val (ex_nilCheck rfl) ?_
    refine still_val (ex_fieldAddr fl159_2 rfl) ?_
    refine still_val (ex_load ty32 rfl (H1.cell (i := 0) rfl rfl)) ?_
    refine nS19 ?_
    refine still_val (ex_move rfl) ?_
    refine still_val (ex_nilCheck rfl) ?_
    refine still_val (ex_fieldAddr fl159_1 rfl) ?_
    refine still_val (ex_load ty3 rfl (H1.cell (i := 0) rfl rfl)) ?_
    refine nS19 ?_
    refine still_val (ex_assign rfl) ?_
    refine still_val (ex_assign rfl) ?_
    refine still_nil ?_
    refine nR19 ?_
    refine run_ret ?_
    refine fin_ret2 rfl rfl rfl ?_
    rw [if_neg he]
    exact ⟨rfl, by rw [hw1]; exact (Hp.refl w0).drew⟩
set_option maxRecDepth 100000 in
set_option maxHeartbeats 4000000 in
theorem fault_nil (w0 : World) :
    Does Tryz.prog 90 #[.pointer none] w0 (fun r w' => r = .tuple #[.int .i64 2, .int .i64 0] ∧ w' = w0) := by
  refine does_of Tryz.func90 Tryz.ntmps90 rfl ?_
  refine nR19 ?_
  have H := Hp.refl w0
  refine run_seq ?_
  refine run_region ?_
  refine ops_val (ex_assign rfl) ?_
  refine ops_val (ex_assign rfl) ?_
  refine ops_nil ?_
  refine nR19 ?_
  refine run_seq ?_
  refine run_seq ?_
  refine run_region ?_
  refine ops_val (ex_move rfl) ?_
  refine ops_true (ex_eql_nil_ptr Tryz.underlying78 rfl) (rfl) ?_
  refine ops_nil ?_
  refine nR19 ?_
  refine run_cond_true rfl ?_
  refine run_seq ?_
  refine run_region ?_
  refine ops_val (ex_assign rfl) ?_
  refine ops_val (ex_assign rfl) ?_
  refine ops_nil ?_
  refine nR19 ?_
  refine run_ret ?_
  refine fin_ret2 rfl rfl rfl ?_
  exact ⟨rfl, rfl⟩
set_option maxRecDepth 100000 in
set_option maxHeartbeats 4000000 in
theorem end_rd (gr : Nat) (A : Option Addr) (c : Nat) (b : List UInt8) (i e : Nat) (w0 : World) (hR : Rdr w0 gr A c b i e) :
    Does Tryz.prog 57 #[.pointer (some ⟨gr, 0, none⟩)] w0 (fun r w' => r = .int .i64 ((if e = 0 ∧ i < b.length then 24 else e : Nat) : Int) ∧ Hp w0 w' [] []) := by
  refine does_of Tryz.func57 Tryz.ntmps57 rfl ?_
  refine nR26 ?_
  have H := Hp.old hR.row
  have hle := hR.le
  have hln := hR.len
  have hcp := hR.cap
  have Hz := Hp.refl w0
  refine run_seq ?_
  refine run_region ?_
  refine ops_val (ex_assign rfl) ?_
  refine ops_nil ?_
  refine nR26 ?_
  refine run_seq ?_
  refine run_seq ?_
  refine run_region ?_
  refine ops_val (ex_move rfl) ?_
  refine ops_false (ex_eql_nil_ptr Tryz.underlying78 rfl) (by simp) ?_
  refine ops_nil ?_
  refine nR26 ?_
  refine run_cond_false rfl ?_
  refine run_skip ?_
  refine run_seq ?_
  refine run_seq ?_
  refine run_still mixed (by kernel_rfl) ?_
  rintro w1 hw1
  have H1 := Hp.drew H; rw [← hw1] at H1
  refine still_val (ex_move rfl) ?_
  refine still_val (ex_nilCheck rfl) ?_
  refine still_val (ex_fieldAddr fl159_2 rfl) ?_
  refine still_val (ex_load ty32 rfl (H1.cell (i := 0) rfl rfl)) ?_
  refine nS26 ?_
  refine still_test (ex_eql rfl rfl) (fun hp9 => ?_) (fun hp9 => ?_)
  · skip
    refine still_val (ex_move rfl) ?_
    refine still_yes rfl ?_
    refine still_val (ex_move rfl) ?_
    refine nS26 ?_
    refine still_yes rfl ?_
    refine still_val (ex_nilCheck rfl) ?_
    refine still_yes rfl ?_
    refine still_val (ex_fieldAddr fl159_1 rfl) ?_
    refine nS26 ?_
    refine still_yes rfl ?_
    refine still_val (ex_load ty3 rfl (H1.cell (i := 0) rfl rfl)) ?_
    refine still_yes rfl ?_
    refine still_val (ex_move rfl) ?_
    refine nS26 ?_
    refine still_yes rfl ?_
    refine still_val (ex_nilCheck rfl) ?_
    refine still_yes rfl ?_
    refine still_val (ex_fieldAddr fl159_0 rfl) ?_
    refine nS26 ?_
    refine still_yes rfl ?_
    refine still_val (ex_load ty29 rfl (H1.cell (i := 0) rfl rfl)) ?_
    refine still_yes rfl ?_
    refine still_val (ex_len_slice Tryz.underlying29 rfl) ?_
    refine nS26 ?_
    refine still_yes rfl ?_
    refine still_test (ex_lss rfl rfl) (fun hp20 => ?_) (fun hp20 => ?_)
    · skip
      refine still_val (ex_pick_t rfl rfl) ?_
      refine still_nil ?_
      refine nR26 ?_
      refine run_cond_true rfl ?_
      refine run_seq ?_
      refine run_region ?_
      refine ops_val (ex_assign rfl) ?_
      refine ops_nil ?_
      refine nR26 ?_
      refine run_ret ?_
      refine fin_ret1 rfl rfl ?_
      rw [if_pos (by omega)]
      exact ⟨rfl, by rw [hw1]; exact (Hp.refl w0).drew⟩
    · skip
      refine still_val (ex_pick_t rfl rfl) ?_
      refine still_nil ?_
      refine nR26 ?_
      refine run_cond_false rfl ?_
      refine run_skip ?_
      refine run_seq ?_
      refine run_region ?_
      refine ops_val (ex_move rfl) ?_
      refine ops_val (ex_nilCheck rfl) ?_
      refine ops_val (ex_fieldAddr fl159_2 rfl) ?_
      refine ops_val (ex_load ty32 rfl (H1.cell (i := 0) rfl rfl)) ?_
      refine nO26 ?_
      refine ops_val (ex_assign rfl) ?_
      refine ops_nil ?_
      refine nR26 ?_
      refine run_ret ?_
      refine fin_ret1 rfl rfl ?_
      rw [if_neg (by omega)]
      exact ⟨rfl, by rw [hw1]; exact (Hp.refl w0).drew⟩
  · skip
    refine still_val (ex_move rfl) ?_
    refine still_no rfl ?_
    refine nS26 ?_
    refine still_no rfl ?_
    refine still_no rfl ?_
    refine nS26 ?_
    refine still_no rfl ?_
    refine still_no rfl ?_
    refine nS26 ?_
    refine still_no rfl ?_
    refine still_no rfl ?_
    refine nS26 ?_
    refine still_no rfl ?_
    refine still_no rfl ?_
    refine nS26 ?_
    refine still_no rfl ?_
    refine still_val (ex_pick_f rfl rfl) ?_
    refine still_nil ?_
    refine nR26 ?_
    refine run_cond_false rfl ?_
    refine run_skip ?_
    refine run_seq ?_
    refine run_region ?_
    refine ops_val (ex_move rfl) ?_
    refine ops_val (ex_nilCheck rfl) ?_
    refine ops_val (ex_fieldAddr fl159_2 rfl) ?_
    refine ops_val (ex_load ty32 rfl (H1.cell (i := 0) rfl rfl)) ?_
    refine nO26 ?_
    refine ops_val (ex_assign rfl) ?_
    refine ops_nil ?_
    refine nR26 ?_
    refine run_ret ?_
    refine fin_ret1 rfl rfl ?_
    rw [if_neg (by omega)]
    exact ⟨rfl, by rw [hw1]; exact (Hp.refl w0).drew⟩
set_option maxRecDepth 100000 in
set_option maxHeartbeats 4000000 in
theorem end_nil (w0 : World) :
    Does Tryz.prog 57 #[.pointer none] w0 (fun r w' => r = .int .i64 2 ∧ w' = w0) := by
  refine does_of Tryz.func57 Tryz.ntmps57 rfl ?_
  refine nR26 ?_
  have H := Hp.refl w0
  refine run_seq ?_
  refine run_region ?_
  refine ops_val (ex_assign rfl) ?_
  refine ops_nil ?_
  refine nR26 ?_
  refine run_seq ?_
  refine run_seq ?_
  refine run_region ?_
  refine ops_val (ex_move rfl) ?_
  refine ops_true (ex_eql_nil_ptr Tryz.underlying78 rfl) (rfl) ?_
  refine ops_nil ?_
  refine nR26 ?_
  refine run_cond_true rfl ?_
  refine run_seq ?_
  refine run_region ?_
  refine ops_val (ex_assign rfl) ?_
  refine ops_nil ?_
  refine nR26 ?_
  refine run_ret ?_
  refine fin_ret1 rfl rfl ?_
  exact ⟨rfl, rfl⟩
end Go.Proofs.YtoeobicpdeklaaaGreat
