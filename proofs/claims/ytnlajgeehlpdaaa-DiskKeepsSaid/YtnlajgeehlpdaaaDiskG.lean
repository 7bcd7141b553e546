/- Walks of layer 2, printed by wip/gen/codec.py. -/
import Derived.Test.YtnlajgeehlpdaaaDiskF
namespace Go.Proofs.Ytnlajgeehlpdaaa
open Go Go.RowKit
set_option linter.unusedVariables false
attribute [local irreducible] Still Ops Does Cd
set_option maxRecDepth 100000 in
set_option maxHeartbeats 4000000 in
theorem all_any (gd gk : Nat) (gw : Option Nat) (cw : Nat) (sp : List Value) (D : Dk) (w0 : World) (H0 : Hp w0 w0 (bl (dRows gd gk gw cw sp D)) (dRows gd gk gw cw sp D)) (hD : DOk D gw cw sp) (hdn : D.down = false) (hm : D.wait.length ≤ 2932000000000) :
    Does Try.prog 19 #[.pointer (some ⟨gd, 0, none⟩)] w0 (fun r w' => ∃ gl cl sl xs, r = .slice (hd gl) D.kept.length cl ∧ D.kept.length ≤ cl ∧ cl * 1 ≤ (xs ++ sl).length ∧ Lst w' ((dRows gd gk gw cw sp D) ++ [(gl, 33, xs ++ sl)]) xs (D.shown D.kept.length) ∧ Fresh w0.heap.size xs ∧ Hp w0 w' (bl (dRows gd gk gw cw sp D)) ((dRows gd gk gw cw sp D) ++ [(gl, 33, xs ++ sl)])) := by
  refine does_of Try.func19 Try.ntmps19 rfl ?_
  change Run _ _ _ _ [.pointer (some ⟨gd, 0, none⟩), undef, undef, undef, undef, undef, undef, undef, undef, undef, undef, undef, undef, undef, undef, undef, undef, undef, undef, undef, undef, undef, undef, undef, undef, undef] _
  have H := H0
  have hO := hD
  obtain ⟨hpos, hmost, hk64, hw64, hwcap, hcap, hnil, harm⟩ := hD
  refine run_seq ?_
  refine run_region ?_
  refine ops_val (ex_assign rfl) ?_
  refine ops_nil ?_
  change Run _ _ _ _ [_, _, _, _, _, _, _, _, _, _, _, _, _, _, _, _, _, _, _, _, _, _, _, _, _, _] _
  refine run_seq ?_
  refine run_region ?_
  refine ops_val (ex_assign rfl) ?_
  refine ops_nil ?_
  change Run _ _ _ _ [_, _, _, _, _, _, _, _, _, _, _, _, _, _, _, _, _, _, _, _, _, _, _, _, _, _] _
  refine run_seq ?_
  refine run_seq ?_
  refine run_region ?_
  refine ops_val (ex_assign rfl) ?_
  refine ops_nil ?_
  change Run _ _ _ _ [_, _, _, _, _, _, _, _, _, _, _, _, _, _, _, _, _, _, _, _, _, _, _, _, _, _] _
  refine run_block ?_
  refine run_loop (fun n l w => ∃ (q : Nat) (y : Int) (gl : Option Nat) (cl : Nat) (xs sl : List Value), D.kept.length - q = n ∧ Fits [some (.pointer (some ⟨gd, 0, none⟩)), none, none, some (.slice (hd gl) q cl), some (.int .i64 y), none, none, none, none, none, none, none, none, none, none, none, none, none, none, none, none, none, none, none, none, none] l ∧ y = q ∧ q ≤ D.kept.length ∧ q ≤ cl ∧ cl * 1 ≤ (xs ++ sl).length ∧ (gl = none → cl = 0) ∧ Lst w ((dRows gd gk gw cw sp D) ++ [(gl, 33, xs ++ sl)]) xs (D.shown q) ∧ Fresh w0.heap.size xs ∧ Hp w0 w (bl (dRows gd gk gw cw sp D)) ((dRows gd gk gw cw sp D) ++ [(gl, 33, xs ++ sl)])) (D.kept.length) ?_ ?_
  · exact ⟨0, _, none, 0, [], [], rfl, (fs (fn (fn (fs (fs (fn (fn (fn (fn (fn (fn (fn (fn (fn (fn (fn (fn (fn (fn (fn (fn (fn (fn (fn (fn (fn f0)))))))))))))))))))))))))), rfl, Nat.zero_le _, Nat.le_refl _, by simp, fun _ => rfl, Lst.nil _ _, Fresh.nil _, H.nil 33⟩
  · rintro n l w1 ⟨q, y, gl, cl, xs, sl, rfl, hfit, rfl, hq, hqc, hcl, hgl, hL, hFr, H1⟩
    obtain ⟨j, rfl⟩ := hfit.open
    change Run _ _ _ _ [_, _, _, _, _, _, _, _, _, _, _, _, _, _, _, _, _, _, _, _, _, _, _, _, _, _] _
    clear hfit
    have HB := H1
    replace H1 := HB.here
    have hxl := hL.1
    rw [show (D.shown q).length = q by simp [Dk.shown]] at hxl
    refine run_seq ?_
    refine run_seq ?_
    refine run_region ?_
    refine ops_val (ex_move rfl) ?_
    refine ops_val (ex_move rfl) ?_
    have hk := size_any gd gk gw cw sp D _ (H1.pick [0, 1, 2] (by decide)).here hO
    refine ops_call_val (ex_call gf12 rfl) hk ?_
    intro w2 Hd
    have H2 := (H1.callr [0, 1, 2] rfl Hd).pick [4, 5, 6, 3] (by decide)
    refine ops_test (ex_lss rfl rfl) (fun hp10 => ?_) (fun hp10 => ?_)
    · have hql : q < D.kept.length := by omega
      have h64 := show_len hO hql
      refine ops_nil ?_
      change Run _ _ _ _ [_, _, _, _, _, _, _, _, _, _, _, _, _, _, _, _, _, _, _, _, _, _, _, _, _, _] _
      refine run_cond_true rfl ?_
      refine run_skip ?_
      refine run_seq ?_
      refine run_block ?_
      refine run_seq ?_
      refine run_region ?_
      refine ops_val (ex_move rfl) ?_
      refine ops_val (ex_move rfl) ?_
      have hk := read_any gd gk gw cw sp D _ (H2.pick [0, 1, 2] (by decide)).here hO (q : Int) hm
      rw [read_ok hdn hql] at hk
      dsimp only at hk
      refine ops_call_rd (ex_call gf15 rfl) hk ?_
      intro w3 g9 c9 s9 ⟨hm9, hc9, hg9, Hd⟩
      have H3 := (H2.callr [0, 1, 2] rfl Hd).pick [4, 5, 6, 3, 7] (by decide)
      refine ops_val (ex_move rfl) ?_
      change Ops _ _ _ _ _ _ [_, _, _, _, _, _, _, _, _, _, _, _, _, _, _, _, _, _, _, _, _, _, _, _, _, _] _
      refine ops_val (ex_extract rfl rfl) ?_
      refine ops_val (ex_extract rfl rfl) ?_
      refine ops_val (ex_assign rfl) ?_
      refine ops_val (ex_assign rfl) ?_
      refine ops_nil ?_
      change Run _ _ _ _ [_, _, _, _, _, _, _, _, _, _, _, _, _, _, _, _, _, _, _, _, _, _, _, _, _, _] _
      refine run_seq ?_
      refine run_seq ?_
      refine run_region ?_
      refine ops_val (ex_move rfl) ?_
      refine ops_false (ex_neq rfl rfl) (by simp) ?_
      refine ops_nil ?_
      change Run _ _ _ _ [_, _, _, _, _, _, _, _, _, _, _, _, _, _, _, _, _, _, _, _, _, _, _, _, _, _] _
      refine run_cond_false rfl ?_
      refine run_skip ?_
      refine run_region ?_
      refine ops_val (ex_move rfl) ?_
      refine ops_val (ex_move rfl) ?_
      refine ops_buildSlice Try.underlying38 ty33 H3 (cs := [.slice (hd g9) (D.show q).length c9]) rfl (by decide) rfl ?_
      intro w4 gb H4 hgb
      refine ops_append Try.underlying38 ty33 (by decide) H4 3 (g := gl) (xs := xs) (sp := sl) rfl rfl (by rw [hxl, Nat.mul_one]) hcl hqc hgl rfl (H4.rd (i := 5) (o := some gb) (xs := [.slice (hd g9) (D.show q).length c9]) (sp := []) (n := 1) (sz := 1) rfl rfl (by decide)) rfl (by omega) (by omega) (by decide) ?_
      intro w5 g3 cap3 sp3 H5 hcap3 hmc3 hg3
      change Ops _ _ _ _ _ _ [_, _, _, _, _, _, _, _, _, _, _, _, _, _, _, _, _, _, _, _, _, _, _, _, _, _] _
      refine ops_val (ex_assign rfl) ?_
      refine ops_nil ?_
      change Run _ _ _ _ [_, _, _, _, _, _, _, _, _, _, _, _, _, _, _, _, _, _, _, _, _, _, _, _, _, _] _
      refine run_nil (blk_normal ?_)
      refine run_region ?_
      refine ops_val (ex_move rfl) ?_
      refine ops_val (ex_add rfl rfl (IntWalk.i64_in _ (by omega))) ?_
      refine ops_val (ex_assign rfl) ?_
      refine ops_nil ?_
      change Run _ _ _ _ [_, _, _, _, _, _, _, _, _, _, _, _, _, _, _, _, _, _, _, _, _, _, _, _, _, _] _
      refine run_nil (rnd_normal ?_)
      have HF := H5.pick [0, 1, 2, 3] (by decide)
      have hL2 := (hL.to HF).snoc (b := D.show q) (B := hd g9) (c := c9) (by omega) (H5.rd (i := 4) (o := g9) (xs := u8s (D.show q)) (sp := s9) rfl (u8s_length1 _) (by decide)) (sep_of H5 4 [0, 1, 2, 3] rfl rfl (by decide))
      rw [← shown_snoc] at hL2
      have HG := (HB.callr [0, 1, 2, 3] rfl (H5.pick [0, 1, 2, 3, 4] (by decide))).pick [4, 5, 6, 7, 8] (by decide)
      have hFr2 := hFr.snoc (k := (D.show q).length) (c := c9) (fresh_at HG 4 rfl (sep_of (es1 := dRows gd gk gw cw sp D) HG 4 [0, 1, 2] rfl rfl (by decide)))
      exact ⟨D.kept.length - (q + 1), by omega, q + 1, _, g3, cap3, xs ++ [Value.slice (hd g9) (D.show q).length c9], sp3, rfl, (fs (fn (fn (fs (fs (fn (fn (fn (fn (fn (fn (fn (fn (fn (fn (fn (fn (fn (fn (fn (fn (fn (fn (fn (fn (fn f0)))))))))))))))))))))))))), rfl, by omega, hmc3, hcap3, hg3, hL2, hFr2, (HB.callr [0, 1, 2, 3] rfl HF).pick [4, 5, 6, 7] (by decide)⟩
    · have hqe : q = D.kept.length := by omega
      refine ops_nil ?_
      change Run _ _ _ _ [_, _, _, _, _, _, _, _, _, _, _, _, _, _, _, _, _, _, _, _, _, _, _, _, _, _] _
      refine run_cond_false rfl ?_
      refine run_exit ?_
      refine rnd_exit ?_
      refine blk_exit ?_
      refine run_seq ?_
      refine run_region ?_
      refine ops_val (ex_move rfl) ?_
      refine ops_val (ex_assign rfl) ?_
      refine ops_nil ?_
      change Run _ _ _ _ [_, _, _, _, _, _, _, _, _, _, _, _, _, _, _, _, _, _, _, _, _, _, _, _, _, _] _
      refine run_ret ?_
      refine fin_ret1 rfl rfl ?_
      have HF := H2.pick [0, 1, 2, 3] (by decide)
      rw [← hqe]
      exact ⟨gl, cl, sl, xs, rfl, hqc, hcl, hL.to HF, hFr, (HB.callr [0, 1, 2, 3] rfl HF).pick [4, 5, 6, 7] (by decide)⟩
set_option maxRecDepth 100000 in
set_option maxHeartbeats 4000000 in
theorem same_any (A B : Option Addr) (bs : List Blk) (c d : Nat) (xs ys : List Value) (w0 : World) (hA : Rd w0 A bs.length 1 xs) (hB : Rd w0 B bs.length 1 ys) (hX : ∀ i (h : i < bs.length), ∃ (C : Option Addr) (k : Nat), xs[i]? = some (.slice C bs[i].length k) ∧ Rd w0 C bs[i].length 1 (u8s bs[i])) (hY : ∀ i (h : i < bs.length), ∃ (C : Option Addr) (k : Nat), ys[i]? = some (.slice C bs[i].length k) ∧ Rd w0 C bs[i].length 1 (u8s bs[i])) (hb : bs.length ≤ 16384) (h64 : ∀ b ∈ bs, b.length = 64) :
    Does Try.prog 30 #[.slice A bs.length c, .slice B bs.length d, .func (.func 16) #[] #[]] w0 (fun r w' => r = .bool true ∧ Hp w0 w' [] []) := by
  refine does_of Try.func30 Try.ntmps30 rfl ?_
  change Run _ _ _ _ [.slice A bs.length c, .slice B bs.length d, .func (.func 16) #[] #[], undef, undef, undef, undef, undef, undef, undef, undef, undef, undef, undef, undef, undef, undef, undef, undef, undef, undef, undef, undef, undef, undef, undef, undef, undef, undef, undef] _
  have H := Hp.refl w0
  refine run_seq ?_
  refine run_region ?_
  refine ops_val (ex_assign rfl) ?_
  refine ops_nil ?_
  change Run _ _ _ _ [_, _, _, _, _, _, _, _, _, _, _, _, _, _, _, _, _, _, _, _, _, _, _, _, _, _, _, _, _, _] _
  refine run_seq ?_
  refine run_seq ?_
  refine run_region ?_
  refine ops_val (ex_move rfl) ?_
  refine ops_val (ex_len_slice Try.underlying38 rfl) ?_
  refine ops_val (ex_move rfl) ?_
  refine ops_val (ex_len_slice Try.underlying38 rfl) ?_
  change Ops _ _ _ _ _ _ [_, _, _, _, _, _, _, _, _, _, _, _, _, _, _, _, _, _, _, _, _, _, _, _, _, _, _, _, _, _] _
  refine ops_false (ex_neq rfl rfl) (by simp) ?_
  refine ops_nil ?_
  change Run _ _ _ _ [_, _, _, _, _, _, _, _, _, _, _, _, _, _, _, _, _, _, _, _, _, _, _, _, _, _, _, _, _, _] _
  refine run_cond_false rfl ?_
  refine run_skip ?_
  refine run_seq ?_
  refine run_seq ?_
  refine run_region ?_
  refine ops_val (ex_assign rfl) ?_
  refine ops_nil ?_
  change Run _ _ _ _ [_, _, _, _, _, _, _, _, _, _, _, _, _, _, _, _, _, _, _, _, _, _, _, _, _, _, _, _, _, _] _
  refine run_block ?_
  refine run_loop (fun n l w => ∃ (q : Nat) (y : Int), bs.length - q = n ∧ Fits [some (.slice A bs.length c), some (.slice B bs.length d), some (.func (.func 16) #[] #[]), none, none, none, none, some (.int .i64 y), none, none, none, none, none, none, none, none, none, none, none, none, none, none, none, none, none, none, none, none, none, none] l ∧ y = q ∧ q ≤ bs.length ∧ Hp w0 w [] []) (bs.length) ?_ ?_
  · exact ⟨0, _, rfl, (fs (fs (fs (fn (fn (fn (fn (fs (fn (fn (fn (fn (fn (fn (fn (fn (fn (fn (fn (fn (fn (fn (fn (fn (fn (fn (fn (fn (fn (fn f0)))))))))))))))))))))))))))))), rfl, Nat.zero_le _, H⟩
  · rintro n l w1 ⟨q, y, rfl, hfit, rfl, hq, H1⟩
    obtain ⟨j, rfl⟩ := hfit.open
    change Run _ _ _ _ [_, _, _, _, _, _, _, _, _, _, _, _, _, _, _, _, _, _, _, _, _, _, _, _, _, _, _, _, _, _] _
    clear hfit
    refine run_seq ?_
    refine run_seq ?_
    refine run_region ?_
    refine ops_val (ex_move rfl) ?_
    refine ops_val (ex_move rfl) ?_
    refine ops_val (ex_len_slice Try.underlying38 rfl) ?_
    refine ops_test (ex_lss rfl rfl) (fun hp16 => ?_) (fun hp16 => ?_)
    · have hql : q < bs.length := by omega
      obtain ⟨C, k, hx1, hx2⟩ := hX q hql
      obtain ⟨E, k2, hy1, hy2⟩ := hY q hql
      obtain ⟨pa, rfl⟩ := hA.some_ (by omega)
      obtain ⟨pb, rfl⟩ := hB.some_ (by omega)
      have hb64 := h64 bs[q] (List.getElem_mem hql)
      refine ops_nil ?_
      change Run _ _ _ _ [_, _, _, _, _, _, _, _, _, _, _, _, _, _, _, _, _, _, _, _, _, _, _, _, _, _, _, _, _, _] _
      refine run_cond_true rfl ?_
      refine run_skip ?_
      refine run_seq ?_
      refine run_block ?_
      refine run_seq ?_
      refine run_mixH [(true, 0), (true, 1), (true, 2), (true, 3), (true, 4), (true, 5), (true, 6), (true, 7), (true, 8), (false, 9), (true, 10)] H1 [] mixed (by decide) (by kernel_rfl) ?_
      rintro w2 hw2
      have H2 := Hp.drew H1; rw [← hw2] at H2
      refine mix_p rfl ?_
      refine mix1_val (fun wz hz => ex_move rfl) ?_
      refine mix_p rfl ?_
      refine mix1_val (fun wz hz => ex_move rfl) ?_
      refine mix_p rfl ?_
      refine mix1_val (fun wz hz => ex_move rfl) ?_
      refine mix_p rfl ?_
      refine mix1_val (fun wz hz => ex_idx Try.underlying38 ty33 rfl rfl rfl hql (Nat.mul_one _)) ?_
      change Mixes _ _ _ _ _ _ [_, _, _, _, _, _, _, _, _, _, _, _, _, _, _, _, _, _, _, _, _, _, _, _, _, _, _, _, _, _] _
      refine mix_p rfl ?_
      refine mix1_val (fun wz hz => ex_load ty33 rfl ((hA.to0 hz).cells pa rfl q _ hx1)) ?_
      refine mix_p rfl ?_
      refine mix1_val (fun wz hz => ex_move rfl) ?_
      refine mix_p rfl ?_
      refine mix1_val (fun wz hz => ex_move rfl) ?_
      refine mix_p rfl ?_
      refine mix1_val (fun wz hz => ex_idx Try.underlying38 ty33 rfl rfl rfl hql (Nat.mul_one _)) ?_
      change Mixes _ _ _ _ _ _ [_, _, _, _, _, _, _, _, _, _, _, _, _, _, _, _, _, _, _, _, _, _, _, _, _, _, _, _, _, _] _
      refine mix_p rfl ?_
      refine mix1_val (fun wz hz => ex_load ty33 rfl ((hB.to0 hz).cells pb rfl q _ hy1)) ?_
      refine mix_o rfl ?_
      have hk := bytes_any C E bs[q] bs[q] k k2 _ (hx2.to0 H2) (hy2.to0 H2) (by omega) (by omega)
      rw [decide_eq_true rfl] at hk
      refine ops_call_val (ex_call_val gf16 rfl rfl) hk ?_
      intro w3 Hd
      have H3 := H2.call0 Hd
      refine ops_nil ?_
      refine ⟨H3.pick [] (by decide), ?_⟩
      change Mixes _ _ _ _ _ _ [_, _, _, _, _, _, _, _, _, _, _, _, _, _, _, _, _, _, _, _, _, _, _, _, _, _, _, _, _, _] _
      refine mix_p rfl ?_
      refine mix1_val (fun wz hz => ex_not rfl) ?_
      refine mix_nil ?_
      change Run _ _ _ _ [_, _, _, _, _, _, _, _, _, _, _, _, _, _, _, _, _, _, _, _, _, _, _, _, _, _, _, _, _, _] _
      refine run_cond_false rfl ?_
      refine run_skip ?_
      refine run_nil (blk_normal ?_)
      refine run_region ?_
      refine ops_val (ex_move rfl) ?_
      refine ops_val (ex_add rfl rfl (IntWalk.i64_in _ (by omega))) ?_
      refine ops_val (ex_assign rfl) ?_
      refine ops_nil ?_
      change Run _ _ _ _ [_, _, _, _, _, _, _, _, _, _, _, _, _, _, _, _, _, _, _, _, _, _, _, _, _, _, _, _, _, _] _
      refine run_nil (rnd_normal ?_)
      exact ⟨bs.length - (q + 1), by omega, q + 1, _, rfl, (fs (fs (fs (fn (fn (fn (fn (fs (fn (fn (fn (fn (fn (fn (fn (fn (fn (fn (fn (fn (fn (fn (fn (fn (fn (fn (fn (fn (fn (fn f0)))))))))))))))))))))))))))))), rfl, by omega, H3⟩
    · skip
      refine ops_nil ?_
      change Run _ _ _ _ [_, _, _, _, _, _, _, _, _, _, _, _, _, _, _, _, _, _, _, _, _, _, _, _, _, _, _, _, _, _] _
      refine run_cond_false rfl ?_
      refine run_exit ?_
      refine rnd_exit ?_
      refine blk_exit ?_
      refine run_seq ?_
      refine run_region ?_
      refine ops_val (ex_assign rfl) ?_
      refine ops_nil ?_
      change Run _ _ _ _ [_, _, _, _, _, _, _, _, _, _, _, _, _, _, _, _, _, _, _, _, _, _, _, _, _, _, _, _, _, _] _
      refine run_ret ?_
      refine fin_ret1 rfl rfl ?_
      exact ⟨rfl, H1⟩
set_option maxRecDepth 100000 in
set_option maxHeartbeats 4000000 in
theorem lists_any (A B : Option Addr) (bs : List Blk) (c d : Nat) (xs ys : List Value) (w0 : World) (hA : Rd w0 A bs.length 1 xs) (hB : Rd w0 B bs.length 1 ys) (hX : ∀ i (h : i < bs.length), ∃ (C : Option Addr) (k : Nat), xs[i]? = some (.slice C bs[i].length k) ∧ Rd w0 C bs[i].length 1 (u8s bs[i])) (hY : ∀ i (h : i < bs.length), ∃ (C : Option Addr) (k : Nat), ys[i]? = some (.slice C bs[i].length k) ∧ Rd w0 C bs[i].length 1 (u8s bs[i])) (hb : bs.length ≤ 16384) (h64 : ∀ b ∈ bs, b.length = 64) :
    Does Try.prog 21 #[.slice A bs.length c, .slice B bs.length d] w0 (fun r w' => r = .bool true ∧ Hp w0 w' [] []) := by
  refine does_of Try.func21 Try.ntmps21 rfl ?_
  change Run _ _ _ _ [.slice A bs.length c, .slice B bs.length d, undef, undef, undef, undef, undef, undef] _
  skip
  refine run_seq ?_
  refine run_region ?_
  refine ops_val (ex_assign rfl) ?_
  refine ops_nil ?_
  change Run _ _ _ _ [_, _, _, _, _, _, _, _] _
  refine run_seq ?_
  refine run_region ?_
  refine ops_val (ex_move rfl) ?_
  refine ops_val (ex_move rfl) ?_
  refine ops_call_val (ex_call gf30 rfl) (same_any A B bs c d xs ys _ hA hB hX hY hb h64) ?_
  intro w1 H1
  refine ops_val (ex_assign rfl) ?_
  refine ops_nil ?_
  change Run _ _ _ _ [_, _, _, _, _, _, _, _] _
  refine run_ret ?_
  refine fin_ret1 rfl rfl ?_
  exact ⟨rfl, H1⟩
end Go.Proofs.Ytnlajgeehlpdaaa
