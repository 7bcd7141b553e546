/- Walks of layer 2, printed by wip/gen/codec.py. -/
import Derived.Test.YtgkciibfpenjpaaNrm
import Derived.Test.YtgkciibfpenjpaaWlwA
namespace Go.Proofs.Ytgkciibfpenjpaa
open Go Go.RowKit
set_option linter.unusedVariables false
attribute [local irreducible] Still Ops Does Cd
set_option maxRecDepth 100000 in
set_option maxHeartbeats 4000000 in
theorem has_any (gb : Nat) (B : Option Addr) (N cb fr : Nat) (zs : List Value) (all rs : List Blk) (A : Option Addr) (c : Nat) (xs : List Value) (w0 : World) (hb2 : w0.cell? ⟨gb, 2, none⟩ = some (.slice B N cb)) (hN : all.length = N) (hcb : N ≤ cb) (hB : Rd w0 B N 1 zs) (hZ : Lsw w0 [] zs all) (hf : fr + rs.length ≤ N) (hA : Rd w0 A rs.length 1 xs) (hX : Lsw w0 [] xs rs) (he : rs = (all.drop fr).take rs.length) (hm : N ≤ 16384) (hl : ∀ b ∈ all, b.length ≤ 16384) :
    Does Try.prog 41 #[.pointer (some ⟨gb, 0, none⟩), .int .i64 (fr : Int), .slice A rs.length c] w0 (fun r w' => r = .bool true ∧ Hp w0 w' [] []) := by
  refine does_of Try.func41 Try.ntmps41 rfl ?_
  refine nR35 ?_
  have H := Hp.refl w0
  refine run_seq ?_
  refine run_region ?_
  refine ops_val (ex_assign rfl) ?_
  refine ops_nil ?_
  refine nR35 ?_
  refine run_seq ?_
  refine run_region ?_
  refine ops_val (ex_move rfl) ?_
  refine ops_true (ex_geq rfl rfl) (by omega) ?_
  refine ops_val (ex_move rfl) ?_
  refine nO35 ?_
  refine ops_yes rfl ?_
  refine ops_val (ex_move rfl) ?_
  refine ops_yes rfl ?_
  refine ops_val (ex_move rfl) ?_
  refine nO35 ?_
  refine ops_yes rfl ?_
  refine ops_val (ex_len_slice Try.underlying29 rfl) ?_
  refine ops_yes rfl ?_
  refine ops_val (ex_add rfl rfl ((IntWalk.i64_in _ (by omega)).trans (show ((fr : Int) + (rs.length : Int)) = ((fr + rs.length : Nat) : Int) by omega))) ?_
  refine nO35 ?_
  refine ops_yes rfl ?_
  refine ops_val (ex_move rfl) ?_
  refine ops_yes rfl ?_
  refine ops_val (ex_nilCheck rfl) ?_
  refine nO35 ?_
  refine ops_yes rfl ?_
  refine ops_val (ex_fieldAddr fl31_2 rfl) ?_
  refine ops_yes rfl ?_
  refine ops_val (ex_load ty29 rfl (hb2)) ?_
  refine nO35 ?_
  refine ops_yes rfl ?_
  refine ops_val (ex_len_slice Try.underlying29 rfl) ?_
  refine ops_yes rfl ?_
  refine ops_true (ex_leq rfl rfl) (by omega) ?_
  refine ops_val (ex_pick_t rfl rfl) ?_
  refine ops_val (ex_move rfl) ?_
  refine nO35 ?_
  refine ops_yes rfl ?_
  refine ops_val (ex_move rfl) ?_
  refine ops_yes rfl ?_
  refine ops_val (ex_move rfl) ?_
  refine nO35 ?_
  refine ops_yes rfl ?_
  refine ops_val (ex_nilCheck rfl) ?_
  refine ops_yes rfl ?_
  refine ops_val (ex_fieldAddr fl31_2 rfl) ?_
  refine nO35 ?_
  refine ops_yes rfl ?_
  refine ops_val (ex_load ty29 rfl (hb2)) ?_
  refine ops_yes rfl ?_
  refine ops_val (ex_move rfl) ?_
  refine nO35 ?_
  refine ops_yes rfl ?_
  refine ops_val (ex_move rfl) ?_
  refine ops_yes rfl ?_
  refine ops_val (ex_move rfl) ?_
  refine nO35 ?_
  refine ops_yes rfl ?_
  refine ops_val (ex_len_slice Try.underlying29 rfl) ?_
  refine ops_yes rfl ?_
  refine ops_val (ex_add rfl rfl ((IntWalk.i64_in _ (by omega)).trans (show ((fr : Int) + (rs.length : Int)) = ((fr + rs.length : Nat) : Int) by omega))) ?_
  refine nO35 ?_
  refine ops_yes rfl ?_
  refine ops_val (ex_cut2 Try.underlying29 ty34 rfl rfl rfl (by omega)) ?_
  refine ops_yes rfl ?_
  have hp1 := hB.part (i := fr) (j := fr + rs.length) (c := cb) (by omega) (by omega) hcb
  have hz1 : Lsw w0 [] ((zs.drop fr).take (fr + rs.length - fr)) rs := by
    rw [Nat.add_sub_cancel_left]
    have h1 := (hZ.drop fr).take rs.length
    rw [← he] at h1; exact h1
  have hle : ∀ b ∈ rs, b.length ≤ 16384 := fun b hb => hl b (List.mem_of_mem_drop (List.mem_of_mem_take (by rw [← he]; exact hb)))
  have e1 : Int.toNat ((fr + rs.length : Nat) : Int) - Int.toNat ((fr : Nat) : Int) = rs.length := by omega
  rw [e1]
  rw [Nat.add_sub_cancel_left] at hp1 hz1
  refine ops_call_val (ex_call gf23 rfl) (lists_any A (cutAddr B fr cb 1) rs c (cb - fr) xs _ _ hA hp1 hX hz1 (by omega) hle) ?_
  intro w1 Hd
  have H1 := H.call0 Hd
  refine ops_val (ex_pick_t rfl rfl) ?_
  refine ops_val (ex_assign rfl) ?_
  refine ops_nil ?_
  refine nR35 ?_
  refine run_ret ?_
  refine fin_ret1 rfl rfl ?_
  exact ⟨rfl, H1⟩
set_option maxRecDepth 100000 in
set_option maxHeartbeats 4000000 in
theorem agree_any (m : Mw) (D : Dk) (W : Wl) (k : Mk) (K : Bk) (w0 : World) (H0 : Hp w0 w0 (bl (bRows m D W k K)) (bRows m D W k K)) (h : BOk w0 m D W k K []) (hag : Agr W K) :
    Does Try.prog 12 #[.pointer (some ⟨k.gb, 0, none⟩)] w0 (fun r w' => r = .bool true ∧ Hp w0 w' [] []) := by
  refine does_of Try.func12 Try.ntmps12 rfl ?_
  refine nR54 ?_
  have H := Hp.refl w0
  have hN := h.most
  have hn1 := hag.next
  have hf1 := hag.first
  have hcb := h.cap
  refine run_seq ?_
  refine run_region ?_
  refine ops_val (ex_assign rfl) ?_
  refine ops_nil ?_
  refine nR54 ?_
  refine run_seq ?_
  refine run_region ?_
  refine ops_val (ex_move rfl) ?_
  refine ops_val (ex_nilCheck rfl) ?_
  refine ops_val (ex_fieldAddr fl31_1 rfl) ?_
  refine ops_val (ex_load ty28 rfl ((rows0 H0 H).cell (i := 6) (o := 1) rfl rfl)) ?_
  refine nO54 ?_
  refine ops_call (ex_call gf17 rfl) ((Rn.records_any m D W _ ((rows0 H0 H).pick [0, 1, 2, 3, 4, 5] (by decide)).here (h.keep0 H).ok).d (fun _ _ hx => hx)) ?_
  rintro r w1 ⟨g, cap, ys, sp, hr, hcap, hcs, hgn, hown, hsep, Hc⟩
  rw [hr]
  have hys := hown.lsw
  have H1 := H.call0 Hc
  refine ops_val (ex_assign rfl) ?_
  refine ops_nil ?_
  refine nR54 ?_
  refine run_seq ?_
  refine run_seq ?_
  refine run_mixZ 37 [(true, 0), (true, 1), (true, 2), (true, 3), (true, 4), (true, 5), (true, 6), (true, 7), (true, 8), (true, 9), (true, 10), (true, 11), (false, 12), (true, 13), (true, 14), (true, 15), (true, 16), (true, 17), (true, 18), (true, 19), (true, 20), (true, 21), (true, 22), (true, 23), (true, 24), (true, 25), (true, 26), (true, 27), (true, 28), (true, 29), (true, 30), (true, 32), (true, 33), (true, 34), (true, 35), (false, 31), (true, 36), (false, 37)] H1 [0] mixed (by decide) (by kernel_rfl) ?_
  rintro w2 hw2
  have H2 := Hp.drew H1; rw [← hw2] at H2
  replace hys : Lsw w2 [] ys W.recs := hys.to0 (es := []) (by rw [‹w2 = _›]; exact Hp.drewW _)
  refine mixz_p rfl ?_
  refine mix1_val (fun wz hz => ex_move rfl) ?_
  refine mixz_p rfl ?_
  refine mix1_val (fun wz hz => ex_nilCheck rfl) ?_
  refine mixz_p rfl ?_
  refine mix1_val (fun wz hz => ex_fieldAddr fl31_1 rfl) ?_
  refine mixz_p rfl ?_
  refine mix1_val (fun wz hz => ex_load ty28 rfl ((rows0 H0 hz).cell (i := 6) (o := 1) rfl rfl)) ?_
  refine nZ54 ?_
  refine mixz_p rfl ?_
  refine mix1_call (fun wz hz => ex_call gf19 rfl) (fun wz hz => first_p m.gv (W.first : Int) wz ((rows0 H0 hz).cell (i := 3) rfl rfl)) ?_
  refine mixz_p rfl ?_
  refine mix1_val (fun wz hz => ex_move rfl) ?_
  refine mixz_p rfl ?_
  refine mix1_val (fun wz hz => ex_len_slice Try.underlying29 rfl) ?_
  refine mixz_p rfl ?_
  refine mix1_val (fun wz hz => ex_add rfl rfl ((IntWalk.i64_in _ (by omega)).trans (show ((W.first : Int) + (W.recs.length : Int)) = ((W.first + W.recs.length : Nat) : Int) by omega))) ?_
  refine nZ54 ?_
  refine mixz_p rfl ?_
  refine mix1_val (fun wz hz => ex_move rfl) ?_
  refine mixz_p rfl ?_
  refine mix1_val (fun wz hz => ex_nilCheck rfl) ?_
  refine mixz_p rfl ?_
  refine mix1_val (fun wz hz => ex_fieldAddr fl31_1 rfl) ?_
  refine mixz_p rfl ?_
  refine mix1_val (fun wz hz => ex_load ty28 rfl ((rows0 H0 hz).cell (i := 6) (o := 1) rfl rfl)) ?_
  refine nZ54 ?_
  refine mixz_o rfl ?_
  refine ops_call_val (ex_call gf15 rfl) (next_any m.gv W.first W.recs.length m.cr (hd m.gr) _ ((rows0 H0 H2).cell (i := 3) rfl rfl) ((rows0 H0 H2).cell (i := 3) rfl rfl) (by omega)) ?_
  intro w3 Hd
  replace hys := hys.to0 Hd
  have H3 := (H2.call0 Hd).pick [0] (by decide)
  refine ops_nil ?_
  refine ⟨fun hne => H3.pick [0] (by decide), ?_⟩
  refine nZ54 ?_
  refine mixz_p rfl ?_
  refine mix1_false (fun wz hz => ex_neq rfl rfl) (by omega) ?_
  refine mixz_p rfl ?_
  refine mix1_val (fun wz hz => ex_move rfl) ?_
  refine mixz_p rfl ?_
  refine mix1_yes rfl ?_
  refine mix1_val (fun wz hz => ex_move rfl) ?_
  refine mixz_p rfl ?_
  refine mix1_yes rfl ?_
  refine mix1_val (fun wz hz => ex_nilCheck rfl) ?_
  refine nZ54 ?_
  refine mixz_p rfl ?_
  refine mix1_yes rfl ?_
  refine mix1_val (fun wz hz => ex_fieldAddr fl31_1 rfl) ?_
  refine mixz_p rfl ?_
  refine mix1_yes rfl ?_
  refine mix1_val (fun wz hz => ex_load ty28 rfl ((rows0 H0 hz).cell (i := 6) (o := 1) rfl rfl)) ?_
  refine mixz_p rfl ?_
  refine mix1_yes rfl ?_
  refine mix1_call (fun wz hz => ex_call gf19 rfl) (fun wz hz => first_p m.gv (W.first : Int) wz ((rows0 H0 hz).cell (i := 3) rfl rfl)) ?_
  refine mixz_p rfl ?_
  refine mix1_yes rfl ?_
  refine mix1_val (fun wz hz => ex_move rfl) ?_
  refine nZ54 ?_
  refine mixz_p rfl ?_
  refine mix1_yes rfl ?_
  refine mix1_val (fun wz hz => ex_nilCheck rfl) ?_
  refine mixz_p rfl ?_
  refine mix1_yes rfl ?_
  refine mix1_val (fun wz hz => ex_fieldAddr fl31_5 rfl) ?_
  refine mixz_p rfl ?_
  refine mix1_yes rfl ?_
  refine mix1_val (fun wz hz => ex_load ty3 rfl ((rows0 H0 hz).cell (i := 6) (o := 5) rfl rfl)) ?_
  refine mixz_p rfl ?_
  refine mix1_yes rfl ?_
  refine mix1_false (fun wz hz => ex_neq rfl rfl) (by omega) ?_
  refine nZ54 ?_
  refine mixz_p rfl ?_
  refine mix1_val (fun wz hz => ex_pick_f rfl rfl) ?_
  refine mixz_p rfl ?_
  refine mix1_val (fun wz hz => ex_move rfl) ?_
  refine mixz_p rfl ?_
  refine mix1_yes rfl ?_
  refine mix1_val (fun wz hz => ex_move rfl) ?_
  refine mixz_p rfl ?_
  refine mix1_yes rfl ?_
  refine mix1_val (fun wz hz => ex_nilCheck rfl) ?_
  refine nZ54 ?_
  refine mixz_p rfl ?_
  refine mix1_yes rfl ?_
  refine mix1_val (fun wz hz => ex_fieldAddr fl31_1 rfl) ?_
  refine mixz_p rfl ?_
  refine mix1_yes rfl ?_
  refine mix1_val (fun wz hz => ex_load ty28 rfl ((rows0 H0 hz).cell (i := 6) (o := 1) rfl rfl)) ?_
  refine mixz_p rfl ?_
  refine mix1_yes rfl ?_
  refine mix1_val (fun wz hz => ex_move rfl) ?_
  refine mixz_p rfl ?_
  refine mix1_yes rfl ?_
  refine mix1_val (fun wz hz => ex_nilCheck rfl) ?_
  refine nZ54 ?_
  refine mixz_p rfl ?_
  refine mix1_yes rfl ?_
  refine mix1_val (fun wz hz => ex_fieldAddr fl31_3 rfl) ?_
  refine mixz_p rfl ?_
  refine mix1_yes rfl ?_
  refine mix1_val (fun wz hz => ex_load ty3 rfl ((rows0 H0 hz).cell (i := 6) (o := 3) rfl rfl)) ?_
  refine mixz_o rfl ?_
  refine ops_yes rfl ?_
  refine ops_call_val (ex_call gf15 rfl) (next_any m.gv W.first W.recs.length m.cr (hd m.gr) _ ((rows0 H0 H3).cell (i := 3) rfl rfl) ((rows0 H0 H3).cell (i := 3) rfl rfl) (by omega)) ?_
  intro w4 Hd
  replace hys := hys.to0 Hd
  have H4 := (H3.call0 Hd).pick [0] (by decide)
  refine ops_nil ?_
  refine ⟨fun hne => H4.pick [0] (by decide), ?_⟩
  refine nZ54 ?_
  refine mixz_p rfl ?_
  refine mix1_yes rfl ?_
  refine mix1_false (fun wz hz => ex_neq rfl rfl) (by omega) ?_
  refine mixz_o rfl ?_
  refine ops_val (ex_pick_f rfl rfl) ?_
  refine ops_nil ?_
  refine ⟨fun hne => absurd rfl hne, ?_⟩
  refine nZ54 ?_
  refine mixz_nil ?_
  refine nR54 ?_
  refine run_cond_false rfl ?_
  refine run_skip ?_
  refine run_seq ?_
  refine run_region ?_
  refine ops_val (ex_move rfl) ?_
  refine ops_val (ex_move rfl) ?_
  refine ops_val (ex_nilCheck rfl) ?_
  refine ops_val (ex_fieldAddr fl31_5 rfl) ?_
  refine nO54 ?_
  refine ops_val (ex_load ty3 rfl ((rows0 H0 H4).cell (i := 6) (o := 5) rfl rfl)) ?_
  refine ops_val (ex_move rfl) ?_
  refine ops_call_val (ex_call gf41 rfl) (has_any k.gb (hd k.ga) K.all.length k.ca K.first k.ys K.all W.recs (hd g) cap ys _ ((rows0 H0 H4).cell (i := 6) rfl rfl) rfl hcb ((rows0 H0 H4).rd (i := 7) rfl (by rw [h.all.1, Nat.mul_one]) (by decide)) (h.keep0 H4).all.bare (by omega) (H4.rd (i := 0) rfl (by rw [hown.len, Nat.mul_one]) (by decide)) hys (by rw [hf1, ← hag.recs, List.take_of_length_le (Nat.le_refl _)]) hN h.long) ?_
  intro w5 Hd
  have H5 := H4.call0 Hd
  refine ops_val (ex_assign rfl) ?_
  refine ops_nil ?_
  refine nR54 ?_
  refine run_ret ?_
  refine fin_ret1 rfl rfl ?_
  exact ⟨rfl, H5.pick [] (by decide)⟩
theorem dead_eq2 {W : Wl} (h : W.dead = true) : ({ W with dead := true } : Wl) = W := by
  cases W; simp at h; subst h; rfl
theorem app_gone {D : Dk} {W : Wl} {b : Blk} {x : Int} {D' : Dk} {W' : Wl} (h : AppRes D W b x D' W') (hx : W.dead = true) (hb : b.length ≤ 16384) : x = 40 ∧ D' = D ∧ W' = W := by
  have hd : (W.dead || D.down) = true := by rw [hx]; rfl
  rcases h with ⟨h1, _⟩ | ⟨_, _, h2, h3, h4⟩ | ⟨_, h1, _⟩ | ⟨_, h1, _⟩
  · omega
  · exact ⟨h2, h3, h4.trans (dead_eq2 hx)⟩
  · rw [hd] at h1; cases h1
  · rw [hd] at h1; cases h1
theorem sc_gone {D : Dk} {W : Wl} {n : Nat} {x : Int} {D' : Dk} {W' : Wl} (h : ScRes D W n x D' W') (hx : W.dead = true) : x = 40 ∧ D' = D ∧ W' = W := by
  have hd : (W.dead || D.down) = true := by rw [hx]; rfl
  rcases h with ⟨_, h2, h3, h4⟩ | ⟨h1, _⟩
  · exact ⟨h2, h3, h4.trans (dead_eq2 hx)⟩
  · rw [hd] at h1; cases h1
end Go.Proofs.Ytgkciibfpenjpaa
