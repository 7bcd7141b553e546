/- Walks of layer 2, printed by wip/gen/codec.py. -/
import Derived.Test.YtoeobicpdeklaaaWireY2
namespace Go.Proofs.Ytoeobicpdeklaaa
open Go Go.RowKit
set_option linter.unusedVariables false
attribute [local irreducible] Still Ops Does Cd
set_option maxRecDepth 100000 in
set_option maxHeartbeats 4000000 in
theorem readL_any (AA : Option Addr) (b : List UInt8) (c : Nat) (gl gi : Nat) (w0 : World) (H0 : Hp w0 w0 [gl, gi] [(some gl, 72, [.int .i64 0, .int .i64 0, .int .i64 0, .int .i64 0, .int .i64 0, .int .i64 0, .int .i64 0, .slice none 0 0, .slice none 0 0, .int .i64 0, .int .i64 0, .int .u32 0, .slice none 0 0]), (some gi, 3, [.int .i64 0])]) (hr : Rd w0 AA b.length 1 (u8s b)) (hra : 0 < b.length → ∀ a, AA = some a → a.block ∉ [gl, gi]) :
    Does Try.prog 43 #[.slice AA b.length c, .func (.func 64) #[] [.pointer (some ⟨gi, 0, none⟩), .pointer (some ⟨gl, 0, none⟩)].toArray] w0 (fun r w' => r = .int .i64 (errR thposted b : Int) ∧ ∃ us v, us.length = thletter.sz ∧ Hp w0 w' [gl, gi] [(some gl, 72, us), (some gi, 3, [v])] ∧ (errR thposted b = 0 → us.all (·.oneCell') = true ∧ ∃ m x, gotR thposted b = post m x ∧ v = .int .i64 m ∧ (-9223372036854775808 ≤ m ∧ m ≤ 9223372036854775807) ∧ thletter.M w' (fun p => w0.heap.size ≤ p ∧ p ∉ [gl, gi] ∧ Tw w' p) x us)) := by
  refine does_of Try.func43 Try.ntmps43 rfl ?_
  change Run _ _ _ _ [.slice AA b.length c, .func (.func 64) #[] [.pointer (some ⟨gi, 0, none⟩), .pointer (some ⟨gl, 0, none⟩)].toArray, undef, undef, undef, undef, undef, undef, undef, undef, undef, undef, undef, undef, undef, undef, undef, undef, undef, undef, undef, undef, undef, undef, undef, undef, undef, undef, undef, undef] _
  have H := H0
  refine run_seq ?_
  refine run_region ?_
  refine ops_val (ex_assign rfl) ?_
  refine ops_nil ?_
  change Run _ _ _ _ [_, _, _, _, _, _, _, _, _, _, _, _, _, _, _, _, _, _, _, _, _, _, _, _, _, _, _, _, _, _] _
  refine run_seq ?_
  refine run_seq ?_
  refine run_region ?_
  refine ops_val (ex_move rfl) ?_
  refine ops_val (ex_len_slice Try.underlying26 rfl) ?_
  refine ops_test (ex_gtr rfl rfl) (fun hp8 => ?_) (fun hp8 => ?_)
  · have he : errR thposted b = 22 := if_pos (by omega)
    refine ops_nil ?_
    change Run _ _ _ _ [_, _, _, _, _, _, _, _, _, _, _, _, _, _, _, _, _, _, _, _, _, _, _, _, _, _, _, _, _, _] _
    refine run_cond_true rfl ?_
    refine run_seq ?_
    refine run_region ?_
    refine ops_val (ex_assign rfl) ?_
    refine ops_nil ?_
    change Run _ _ _ _ [_, _, _, _, _, _, _, _, _, _, _, _, _, _, _, _, _, _, _, _, _, _, _, _, _, _, _, _, _, _] _
    refine run_ret ?_
    refine fin_ret1 rfl rfl ?_
    exact ⟨by rw [he]; rfl, [.int .i64 0, .int .i64 0, .int .i64 0, .int .i64 0, .int .i64 0, .int .i64 0, .int .i64 0, .slice none 0 0, .slice none 0 0, .int .i64 0, .int .i64 0, .int .u32 0, .slice none 0 0], .int .i64 0, rfl, H, fun h => by rw [he] at h; cases h⟩
  · have hbl : b.length ≤ 65536 := by omega
    refine ops_nil ?_
    change Run _ _ _ _ [_, _, _, _, _, _, _, _, _, _, _, _, _, _, _, _, _, _, _, _, _, _, _, _, _, _, _, _, _, _] _
    refine run_cond_false rfl ?_
    refine run_skip ?_
    refine run_seq ?_
    refine run_region ?_
    refine ops_val (ex_move rfl) ?_
    refine ops_new (ex_call gf82 rfl) (new_any AA b c _ (hr.fc H hra) (by omega)) ?_
    intro w1 gr g cap sp hcb hroom hnil Hd
    have H1 := H.call0 Hd
    refine ops_val (ex_build ty138 pl138 rfl rfl) ?_
    refine ops_box rfl rfl H1 ?_
    intro w2 g2 H2 hg2
    change Ops _ _ _ _ _ _ [_, _, _, _, _, _, _, _, _, _, _, _, _, _, _, _, _, _, _, _, _, _, _, _, _, _, _, _, _, _] _
    obtain ⟨gpn, hgpn⟩ : ∃ x, x = g2 := ⟨_, rfl⟩
    subst hgpn
    refine ops_val (ex_assign rfl) ?_
    refine ops_nil ?_
    change Run _ _ _ _ [_, _, _, _, _, _, _, _, _, _, _, _, _, _, _, _, _, _, _, _, _, _, _, _, _, _, _, _, _, _] _
    refine run_seq ?_
    refine run_region ?_
    refine ops_val (ex_move rfl) ?_
    refine ops_val (ex_move rfl) ?_
    have HX : Hp w0 w2 [gl, gi] (pr gpn gr g cap sp b 0 0 ++ [(some gl, 72, [.int .i64 0, .int .i64 0, .int .i64 0, .int .i64 0, .int .i64 0, .int .i64 0, .int .i64 0, .slice none 0 0, .slice none 0 0, .int .i64 0, .int .i64 0, .int .u32 0, .slice none 0 0]), (some gi, 3, [.int .i64 0])]) := H2.pick [4, 2, 3, 0, 1] (by decide)
    refine ops_call (ex_call_val (cap := [.pointer (some ⟨gi, 0, none⟩), .pointer (some ⟨gl, 0, none⟩)]) gf64 rfl rfl) (cletter_r gpn gr g cap sp b hcb hbl gl gi _ HX.here) ?_
    rintro _ w3 ⟨us, v, j, p, q, hul, hj, Hd, hor, hM⟩
    obtain ⟨⟨y, i, e⟩, hy⟩ : ∃ s, thposted.rd b 0 0 = s := ⟨_, rfl⟩
    rw [hy] at hor hM
    simp only at hor hM
    have hsz := HX.size
    have H3 := HX.all Hd
    refine ops_nil ?_
    change Run _ _ _ _ [_, _, _, _, _, _, _, _, _, _, _, _, _, _, _, _, _, _, _, _, _, _, _, _, _, _, _, _, _, _] _
    refine run_seq ?_
    refine run_seq ?_
    refine run_region ?_
    refine ops_val (ex_move rfl) ?_
    refine ops_val (ex_nilCheck rfl) ?_
    refine ops_val (ex_fieldAddr fl138_3 rfl) ?_
    refine ops_val (ex_load ty29 rfl (H3.cell (i := 0) rfl rfl)) ?_
    change Ops _ _ _ _ _ _ [_, _, _, _, _, _, _, _, _, _, _, _, _, _, _, _, _, _, _, _, _, _, _, _, _, _, _, _, _, _] _
    refine ops_test (ex_neq rfl rfl) (fun hp20 => ?_) (fun hp20 => ?_)
    · have hqe : q = e ∧ q ≠ 0 := by rcases hor with ⟨h1, _, _⟩ | h1 <;> omega
      obtain ⟨rfl, hqe⟩ := hqe
      refine ops_nil ?_
      change Run _ _ _ _ [_, _, _, _, _, _, _, _, _, _, _, _, _, _, _, _, _, _, _, _, _, _, _, _, _, _, _, _, _, _] _
      refine run_cond_true rfl ?_
      refine run_seq ?_
      refine run_region ?_
      refine ops_val (ex_move rfl) ?_
      refine ops_val (ex_nilCheck rfl) ?_
      refine ops_val (ex_fieldAddr fl138_3 rfl) ?_
      refine ops_val (ex_load ty29 rfl (H3.cell (i := 0) rfl rfl)) ?_
      change Ops _ _ _ _ _ _ [_, _, _, _, _, _, _, _, _, _, _, _, _, _, _, _, _, _, _, _, _, _, _, _, _, _, _, _, _, _] _
      refine ops_val (ex_assign rfl) ?_
      refine ops_nil ?_
      change Run _ _ _ _ [_, _, _, _, _, _, _, _, _, _, _, _, _, _, _, _, _, _, _, _, _, _, _, _, _, _, _, _, _, _] _
      refine run_ret ?_
      refine fin_ret1 rfl rfl ?_
      have he : errR thposted b = q := by rw [errR_eq hbl hy, if_neg (by omega)]
      exact ⟨by rw [he], us, v, hul, H3.pick [3, 4] (by decide), fun h0 => by omega⟩
    · have hqe : q = 0 ∧ j = i ∧ p = e := by rcases hor with h1 | ⟨_, h1⟩ <;> omega
      obtain ⟨rfl, rfl, rfl⟩ := hqe
      refine ops_nil ?_
      change Run _ _ _ _ [_, _, _, _, _, _, _, _, _, _, _, _, _, _, _, _, _, _, _, _, _, _, _, _, _, _, _, _, _, _] _
      refine run_cond_false rfl ?_
      refine run_skip ?_
      refine run_seq ?_
      refine run_region ?_
      refine ops_val (ex_move rfl) ?_
      refine ops_val (ex_nilCheck rfl) ?_
      refine ops_val (ex_fieldAddr fl138_0 rfl) ?_
      refine ops_val (ex_load ty136 rfl (H3.cell (i := 0) rfl rfl)) ?_
      change Ops _ _ _ _ _ _ [_, _, _, _, _, _, _, _, _, _, _, _, _, _, _, _, _, _, _, _, _, _, _, _, _, _, _, _, _, _] _
      have hMp : p = 0 → thposted.X → True := fun _ _ => trivial
      clear hMp
      refine ops_call_val (ex_call gf83 rfl) (end_rd gr (hd g) cap b j p _ (rdr_of H3 (j := 1) (k := 2) rfl rfl (by decide) hcb (by omega) hj)) ?_
      intro w4 He
      have hE := H3.here.call0 He
      have H4 := H3.call0 He
      refine ops_val (ex_assign rfl) ?_
      refine ops_nil ?_
      change Run _ _ _ _ [_, _, _, _, _, _, _, _, _, _, _, _, _, _, _, _, _, _, _, _, _, _, _, _, _, _, _, _, _, _] _
      refine run_ret ?_
      refine fin_ret1 rfl rfl ?_
      have he := errR_eq hbl hy
      refine ⟨by rw [he], us, v, hul, H4.pick [3, 4] (by decide), fun h0 => ?_⟩
      have hp0 : p = 0 := by rw [he] at h0; split at h0 <;> omega
      obtain ⟨hone, m, x, hx, hv, hn, hMx⟩ := hM hp0
      have hMe := Fr.to (A := thletter) hMx hE
      refine ⟨hone, m, x, by rw [(gotR_ok h0).1, hy]; exact hx, hv, hn, thletter.mono hMe fun k hk => ⟨by have := hk.1; omega, fun hq => hk.2.1 ?_, hk.2.2⟩⟩
      simp only [List.mem_cons, List.not_mem_nil, or_false] at hq
      rcases hq with rfl | rfl <;> simp [bl]
set_option maxRecDepth 100000 in
set_option maxHeartbeats 4000000 in
theorem letter_rd (AA : Option Addr) (b : List UInt8) (c : Nat) (w0 : World) (hr : Rd w0 AA b.length 1 (u8s b)) (hb : b.length ≤ 211106232532900) :
    Does Try.prog 33 #[.slice AA b.length c] w0 (fun r w' => RdLet b w0 w' r) := by
  refine does_of Try.func33 Try.ntmps33 rfl ?_
  change Run _ _ _ _ [.slice AA b.length c, undef, undef, undef, undef, undef, undef, undef, undef, undef, undef, undef, undef, undef, undef, undef, undef] _
  have H := Hp.refl w0
  refine run_seq ?_
  refine run_region ?_
  refine ops_val (ex_assign rfl) ?_
  refine ops_alloc ty72 H ?_
  intro w1 g1 H1 hg1
  refine ops_val (ex_assign rfl) ?_
  refine ops_nil ?_
  change Run _ _ _ _ [_, _, _, _, _, _, _, _, _, _, _, _, _, _, _, _, _] _
  refine run_seq ?_
  refine run_region ?_
  refine ops_alloc ty72 H1 ?_
  intro w2 g2 H2 hg2
  refine ops_nil ?_
  change Run _ _ _ _ [_, _, _, _, _, _, _, _, _, _, _, _, _, _, _, _, _] _
  refine run_seq ?_
  refine run_region ?_
  refine ops_alloc ty3 H2 ?_
  intro w3 g3 H3 hg3
  refine ops_store1 ty3 H3 2 rfl rfl rfl rfl (by decide) rfl ?_
  intro w4 H4
  refine ops_nil ?_
  change Run _ _ _ _ [_, _, _, _, _, _, _, _, _, _, _, _, _, _, _, _, _] _
  refine run_seq ?_
  refine run_seq ?_
  refine run_region ?_
  refine ops_val (ex_move rfl) ?_
  refine ops_val (ex_makeFunc rfl rfl) ?_
  have HP : Hp w0 w4 [] [(some g2, 72, [.int .i64 0, .int .i64 0, .int .i64 0, .int .i64 0, .int .i64 0, .int .i64 0, .int .i64 0, .slice none 0 0, .slice none 0 0, .int .i64 0, .int .i64 0, .int .u32 0, .slice none 0 0]), (some g3, 3, [.int .i64 0]), (some g1, 72, [.int .i64 0, .int .i64 0, .int .i64 0, .int .i64 0, .int .i64 0, .int .i64 0, .int .i64 0, .slice none 0 0, .slice none 0 0, .int .i64 0, .int .i64 0, .int .u32 0, .slice none 0 0])] := H4.pick [1, 2, 0] (by decide)
  have HX : Hp w4 w4 [g2, g3] [(some g2, 72, [.int .i64 0, .int .i64 0, .int .i64 0, .int .i64 0, .int .i64 0, .int .i64 0, .int .i64 0, .slice none 0 0, .slice none 0 0, .int .i64 0, .int .i64 0, .int .u32 0, .slice none 0 0]), (some g3, 3, [.int .i64 0])] := (Hp.less (es := [(some g2, 72, [.int .i64 0, .int .i64 0, .int .i64 0, .int .i64 0, .int .i64 0, .int .i64 0, .int .i64 0, .slice none 0 0, .slice none 0 0, .int .i64 0, .int .i64 0, .int .u32 0, .slice none 0 0]), (some g3, 3, [.int .i64 0])]) (R := [(some g1, 72, [.int .i64 0, .int .i64 0, .int .i64 0, .int .i64 0, .int .i64 0, .int .i64 0, .int .i64 0, .slice none 0 0, .slice none 0 0, .int .i64 0, .int .i64 0, .int .u32 0, .slice none 0 0])]) HP).here
  have hk := readL_any AA b c g2 g3 _ HX (hr.to0 H4) (fun h0 a ha hq => by
    simp only [List.mem_cons, List.not_mem_nil, or_false] at hq
    have hl1 := H4.place (i := 1) rfl
    have hl2 := H4.place (i := 2) rfl
    have hs0 := H4.size
    have hc := World.block_lt_of_cell? _ _ (hr.cells a ha 0 _ (u8s_get h0))
    rw [Addr.add_zero'] at hc
    rcases hl1 with h1 | h1
    · simp at h1
    rcases hl2 with h2 | h2
    · simp at h2
    omega)
  refine ops_call (ex_call gf43 rfl) hk ?_
  rintro _ w5 ⟨rfl, us, v, hul, Hd, hM⟩
  have hsz1 := H4.size
  have hg1 : g1 < w4.heap.size := H4.lt (i := 0) rfl
  have hg2 : g2 < w4.heap.size := H4.lt (i := 1) rfl
  have hg3 : g3 < w4.heap.size := H4.lt (i := 2) rfl
  have H5 := (Hp.front (es1 := [(some g2, 72, [.int .i64 0, .int .i64 0, .int .i64 0, .int .i64 0, .int .i64 0, .int .i64 0, .int .i64 0, .slice none 0 0, .slice none 0 0, .int .i64 0, .int .i64 0, .int .u32 0, .slice none 0 0]), (some g3, 3, [.int .i64 0])]) (R := [(some g1, 72, [.int .i64 0, .int .i64 0, .int .i64 0, .int .i64 0, .int .i64 0, .int .i64 0, .int .i64 0, .slice none 0 0, .slice none 0 0, .int .i64 0, .int .i64 0, .int .u32 0, .slice none 0 0])]) HP Hd).pick [2, 0, 1] (by decide)
  refine ops_val (ex_assign rfl) ?_
  refine ops_nil ?_
  change Run _ _ _ _ [_, _, _, _, _, _, _, _, _, _, _, _, _, _, _, _, _] _
  refine run_seq ?_
  refine run_region ?_
  refine ops_val (ex_move rfl) ?_
  refine ops_test (ex_neq rfl rfl) (fun hp12 => ?_) (fun hp12 => ?_)
  · have he : errR thposted b ≠ 0 := by omega
    refine ops_nil ?_
    change Run _ _ _ _ [_, _, _, _, _, _, _, _, _, _, _, _, _, _, _, _, _] _
    refine run_cond_true rfl ?_
    refine run_seq ?_
    refine run_region ?_
    refine ops_val (ex_build ty72 pl72 rfl rfl) ?_
    refine ops_val (ex_move rfl) ?_
    refine ops_val (ex_assign rfl) ?_
    refine ops_store ty72 H5 0 rfl rfl rfl rfl rfl (by decide) rfl ?_
    intro w6 H6
    refine ops_val (ex_assign rfl) ?_
    refine ops_nil ?_
    change Run _ _ _ _ [_, _, _, _, _, _, _, _, _, _, _, _, _, _, _, _, _] _
    refine run_ret ?_
    refine fin_tmp_cell_tmp rfl ty72 rfl rfl rfl rfl (H6.cells (i := 0) rfl) ?_
    exact ⟨0, thletter.z, _, by rw [gotR_bad he]; rfl, by decide, rfl, thletter.zM _ _, H6.pick [] (by decide)⟩
  · have he : errR thposted b = 0 := by omega
    obtain ⟨hone, m, x, hx, rfl, hn, hm⟩ := hM he
    have HA := H5
    replace H5 := HA.here
    refine ops_nil ?_
    change Run _ _ _ _ [_, _, _, _, _, _, _, _, _, _, _, _, _, _, _, _, _] _
    refine run_cond_false rfl ?_
    refine run_skip ?_
    refine run_seq ?_
    refine run_tail 3 mixed (by kernel_rfl) ?_
    rintro w6 hw6
    have H6 := Hp.drew H5; rw [← hw6] at H6
    refine still_val (ex_load ty3 rfl (H6.cell (i := 2) rfl rfl)) ?_
    refine still_val (ex_loadN ty72 rfl (vs := us) hul (H6.cells (i := 1) rfl)) ?_
    refine still_val (ex_assign rfl) ?_
    refine still_nil ?_
    refine ops_store ty72 H6 0 rfl rfl rfl rfl hul (by rw [hul]; decide) hone ?_
    intro w7 H7
    have hpu : putAt [.int .i64 0, .int .i64 0, .int .i64 0, .int .i64 0, .int .i64 0, .int .i64 0, .int .i64 0, .slice none 0 0, .slice none 0 0, .int .i64 0, .int .i64 0, .int .u32 0, .slice none 0 0] 0 us = us := putAt_all hul
    rw [hpu] at H7
    refine ops_val (ex_assign rfl) ?_
    refine ops_nil ?_
    change Run _ _ _ _ [_, _, _, _, _, _, _, _, _, _, _, _, _, _, _, _, _] _
    refine run_ret ?_
    refine fin_tmp_cell_tmp rfl ty72 rfl rfl rfl hul (H7.cells (i := 0) rfl) ?_
    have hm2 := thletter.to hm H7 (fun p hp hq => by simp [bl] at hq; have := hp.1; omega)
    exact ⟨m, x, us, hx, hn, by rw [he]; rfl, thletter.mono hm2 (fun p hp => ⟨by have := hp.1.1; omega, hp.1.2.2.to H7 (by intro hq; simp [bl] at hq; have := hp.1.1; omega)⟩), (HA.all H7).pick [] (by decide)⟩
end Go.Proofs.Ytoeobicpdeklaaa
