/- Walks of layer 2, printed by wip/gen/codec.py. -/
import Derived.Test.YtgkciibfpenjpaaNrm
import Derived.Test.YtgkciibfpenjpaaWalF
namespace Go.Proofs.Ytgkciibfpenjpaa
open Go Go.RowKit
set_option linter.unusedVariables false
attribute [local irreducible] Still Ops Does Cd
def be8 (v : Nat) : Blk := (List.range 8).map fun i => UInt8.ofNat (v / 2 ^ (56 - 8 * i) % 256)
theorem be8_len (v : Nat) : (be8 v).length = 8 := by simp [be8]
theorem be8_take {v i : Nat} (h : i < 8) : u8s ((be8 v).take (i + 1)) = u8s ((be8 v).take i) ++ [.int .u8 ((v / 2 ^ (56 - 8 * i) % 256 : Nat) : Int)] := by
  have hl : i < (be8 v).length := by rw [be8_len]; exact h
  rw [List.take_add_one, List.getElem?_eq_getElem hl, u8s_append]
  congr 1
  show [Value.int .u8 ((be8 v)[i].toNat : Int)] = _
  simp only [be8, List.getElem_map, List.getElem_range]
  rw [u8n (Nat.mod_lt _ (by decide))]
theorem lay_snoc {cs : List Value} {off v i : Nat} (h : i < 8) (hf : off + 8 ≤ cs.length) : (putAt cs off (u8s ((be8 v).take i))).set (off + i) (.int .u8 ((v / 2 ^ (56 - 8 * i) % 256 : Nat) : Int)) = putAt cs off (u8s ((be8 v).take (i + 1))) := by
  have hl : (u8s ((be8 v).take i)).length = i := by rw [u8s_length, List.length_take, be8_len]; omega
  have h1 : (cs.take off).length = off := by rw [List.length_take]; omega
  rw [be8_take h]
  unfold putAt
  rw [List.length_append, hl]
  simp only [List.length_cons, List.length_nil]
  rw [List.set_append_right _ _ (by rw [List.length_append, h1, hl]; exact Nat.le_refl _), List.length_append, h1, hl, Nat.sub_self]
  obtain ⟨x, r, hx⟩ : ∃ x r, cs.drop (off + i) = x :: r := by
    have : off + i < cs.length := by omega
    exact ⟨cs[off + i], cs.drop (off + i + 1), List.drop_eq_getElem_cons this⟩
  have hr : cs.drop (off + (i + (0 + 1))) = r := by
    rw [show off + (i + (0 + 1)) = (off + i) + 1 by omega, ← List.drop_drop, hx]; rfl
  rw [hx, hr, List.set_cons_zero]
  simp
def rdB (b : Blk) : Nat := b.foldl (fun v c => v * 256 + c.toNat) 0
def rd8 (b : Blk) : Nat := rdB (b.take 8)
theorem rdB_snoc (l : Blk) (c : UInt8) : rdB (l ++ [c]) = rdB l * 256 + c.toNat := by simp [rdB]
theorem rdB_go : ∀ (l : Blk) (a m : Nat), a < 256 ^ m → l.foldl (fun v c => v * 256 + c.toNat) a < 256 ^ (m + l.length)
  | [], a, m, h => h
  | c :: l, a, m, h => by
    have h2 := c.toNat_lt
    have h3 : (a + 1) * 256 ≤ 256 ^ m * 256 := Nat.mul_le_mul_right _ h
    have := rdB_go l (a * 256 + c.toNat) (m + 1) (by rw [Nat.pow_succ]; omega)
    rw [show m + (c :: l).length = m + 1 + l.length by simp; omega]
    exact this
theorem rdB_lt (l : Blk) (n : Nat) (h : l.length ≤ n) : rdB l < 256 ^ n := by
  have := rdB_go l 0 0 (by decide)
  rw [Nat.zero_add] at this
  exact Nat.lt_of_lt_of_le this (Nat.pow_le_pow_right (by decide) h)
theorem rd8_lt (b : Blk) : rd8 b < 2 ^ 64 := by
  have := rdB_lt (b.take 8) 8 (by simp; omega)
  simpa [rd8] using this
theorem rd8_be8 {v : Nat} (h : v < 2 ^ 64) (r : Blk) : rd8 (be8 v ++ r) = v := by
  have e : (be8 v ++ r).take 8 = be8 v := List.take_left' (be8_len v)
  unfold rd8
  rw [e]
  have u : ∀ k : Nat, (UInt8.ofNat (k % 256)).toNat = k % 256 := fun k => u8n (Nat.mod_lt _ (by decide))
  simp only [be8, rdB, List.range_succ, List.range_zero, List.nil_append, List.map_cons, List.map_nil, List.cons_append, List.foldl_cons, List.foldl_nil, u]
  omega
theorem shl8 {x : Nat} (h : x < 2 ^ 56) : IntKind.u64.wrap ((x : Int) * 2 ^ (min (8 : Int).toNat IntKind.u64.bits)) = ((x * 256 : Nat) : Int) := by
  rw [show ((x : Int) * 2 ^ (min (8 : Int).toNat IntKind.u64.bits)) = ((x * 256 : Nat) : Int) by show (x : Int) * 256 = _; omega]
  exact IntWalk.u64_in _ (by omega)
theorem or8 {x c : Nat} (h : x < 2 ^ 56) (hc : c < 256) : bits .or .u64 ((x * 256 : Nat) : Int) (c : Int) = ((x * 256 + c : Nat) : Int) := by
  rw [bits_or rfl _ _ (by show _ < 2 ^ 64; omega) (by show _ < 2 ^ 64; omega)]
  congr 1
  have := Nat.two_pow_add_eq_or_of_lt (i := 8) (b := c) hc x
  rw [show x * 256 = 2 ^ 8 * x by omega]
  exact this.symm
set_option maxRecDepth 100000 in
set_option maxHeartbeats 4000000 in
theorem lay_any (gb off len cap v : Nat) (cs : List Value) (w0 : World) (H0 : Hp w0 w0 [gb] [(some gb, 5, cs)]) (hl : 8 ≤ len) (hf : off + 8 ≤ cs.length) (hv : v < 2 ^ 64) :
    Does Try.prog 63 #[.slice (some ⟨gb, off, none⟩) len cap, .int .u64 (v : Int)] w0 (fun _ w' => Hp w0 w' [gb] [(some gb, 5, putAt cs off (u8s (be8 v)))]) := by
  refine does_of Try.func63 Try.ntmps63 rfl ?_
  refine nR18 ?_
  have H := H0
  refine run_seq ?_
  refine run_region ?_
  refine ops_val (ex_move rfl) ?_
  refine ops_nil ?_
  refine nR18 ?_
  refine run_block ?_
  refine run_loop (fun n l w => ∃ (i : Nat) (y : Int), 8 - i = n ∧ Fits [some (.slice (some ⟨gb, off, none⟩) len cap), some (.int .u64 (v : Int)), none, none, none, some (.int .i64 y), none, none, none, none, none, none, none, none, none, none, none, none] l ∧ y = i ∧ i ≤ 8 ∧ Hp w0 w [gb] [(some gb, 5, putAt cs off (u8s ((be8 v).take i)))]) (8) ?_ ?_
  · refine ⟨0, _, rfl, (fs (fs (fn (fn (fn (fs (fn (fn (fn (fn (fn (fn (fn (fn (fn (fn (fn (fn f0)))))))))))))))))), rfl, Nat.zero_le _, ?_⟩
    have e : putAt cs off (u8s ((be8 v).take 0)) = cs := by simp [putAt, u8s]
    rw [e]; exact H
  · rintro n l w1 ⟨i, y, rfl, hfit, rfl, hi, H1⟩
    obtain ⟨j, rfl⟩ := hfit.open
    refine nR18 ?_
    clear hfit
    refine run_seq ?_
    refine run_region ?_
    refine ops_test (ex_lss rfl rfl) (fun hp6 => ?_) (fun hp6 => ?_)
    · have hil : i < 8 := by omega
      refine ops_nil ?_
      refine nR18 ?_
      refine run_seq ?_
      refine run_cond_true rfl ?_
      refine run_skip ?_
      refine run_seq ?_
      refine run_block ?_
      refine run_seq ?_
      refine run_region ?_
      refine ops_val (ex_move rfl) ?_
      refine ops_val (ex_assign rfl) ?_
      refine ops_nil ?_
      refine nR18 ?_
      refine run_region ?_
      refine ops_val (ex_move rfl) ?_
      refine ops_val (ex_move rfl) ?_
      refine ops_val (ex_move rfl) ?_
      refine ops_val (ex_move rfl) ?_
      refine nO18 ?_
      refine ops_val (ex_mul rfl rfl (IntWalk.i64_in _ (by omega))) ?_
      refine ops_val (ex_sub rfl rfl (IntWalk.i64_in _ (by omega))) ?_
      refine ops_val (ex_shr rfl rfl (by omega) ((show _ = ((v / 2 ^ (56 - 8 * i) : Nat) : Int) from by have hz := shr_nat v (56 - 8 * i) 64; rw [show ((56 : Int) - 8 * (i : Int)) = ((56 - 8 * i : Nat) : Int) by omega]; rw [show min (56 - 8 * i) 64 = 56 - 8 * i by omega] at hz; exact hz))) ?_
      refine ops_val (ex_conv Try.underlying5 Try.underlying56 rfl (u8w (v / 2 ^ (56 - 8 * i)))) ?_
      refine nO18 ?_
      refine ops_val (ex_idx Try.underlying34 ty5 rfl rfl rfl (by omega) (Nat.mul_one _)) ?_
      rw [Addr.add_lit]
      refine ops_store1 ty5 H1 0 rfl rfl rfl rfl (by simp [putAt, u8s_length, be8_len]; omega) rfl ?_
      intro w2 H2
      change Hp _ _ _ [_] at H2
      rw [lay_snoc hil hf] at H2
      refine ops_nil ?_
      refine nR18 ?_
      refine run_nil (blk_normal ?_)
      refine run_region ?_
      refine ops_val (ex_add rfl rfl (IntWalk.i64_in _ (by omega))) ?_
      refine ops_val (ex_move rfl) ?_
      refine ops_nil ?_
      refine nR18 ?_
      refine run_nil (rnd_normal ?_)
      exact ⟨8 - (i + 1), by omega, i + 1, _, rfl, (fs (fs (fn (fn (fn (fs (fn (fn (fn (fn (fn (fn (fn (fn (fn (fn (fn (fn f0)))))))))))))))))), rfl, by omega, H2⟩
    · have hi8 : i = 8 := by omega
      subst hi8
      refine ops_nil ?_
      refine nR18 ?_
      refine run_seq ?_
      refine run_cond_false rfl ?_
      refine run_exit ?_
      refine rnd_exit ?_
      refine blk_exit ?_
      refine run_nil ?_
      refine fin_end0 rfl ?_
      have e : (be8 v).take 8 = be8 v := List.take_of_length_le (by rw [be8_len]; exact Nat.le_refl _)
      rw [e] at H1
      exact H1
set_option maxRecDepth 100000 in
set_option maxHeartbeats 4000000 in
theorem take_any (A : Option Addr) (b : Blk) (nn c : Nat) (w0 : World) (hr : Rd w0 A nn 1 (u8s b)) (hb : nn = b.length) (h8 : 8 ≤ nn) (hc : nn ≤ c) :
    Does Try.prog 65 #[.slice A nn c] w0 (fun r w' => r = .int .u64 (rd8 b : Int) ∧ w' = w0) := by
  refine does_of Try.func65 Try.ntmps65 rfl ?_
  refine nR20 ?_
  have H := Hp.refl w0
  refine run_seq ?_
  refine run_region ?_
  refine ops_val (ex_assign rfl) ?_
  refine ops_nil ?_
  refine nR20 ?_
  refine run_seq ?_
  refine run_region ?_
  refine ops_val (ex_assign rfl) ?_
  refine ops_nil ?_
  refine nR20 ?_
  refine run_seq ?_
  refine run_seq ?_
  refine run_region ?_
  refine ops_val (ex_move rfl) ?_
  refine ops_val (ex_cutHi Try.underlying34 ty5 rfl rfl ((by omega))) ?_
  refine ops_val (ex_len_slice Try.underlying34 rfl) ?_
  refine ops_val (ex_move rfl) ?_
  refine ops_nil ?_
  refine nR20 ?_
  refine run_block ?_
  refine run_loop (fun n l w => ∃ (i : Nat) (x y : Int), 8 - i = n ∧ Fits [some (.slice A nn c), none, none, some (.int .u64 x), none, none, none, some (.slice A 8 c), some (.int .i64 8), some (.int .i64 y), none, none, none, none, none, none, none, none, none, none] l ∧ x = (rdB (b.take i) : Int) ∧ y = i ∧ i ≤ 8 ∧ w = w0) (8) ?_ ?_
  · exact ⟨0, _, _, rfl, (fs (fn (fn (fs (fn (fn (fn (fs (fs (fs (fn (fn (fn (fn (fn (fn (fn (fn (fn (fn f0)))))))))))))))))))), rfl, rfl, Nat.zero_le _, rfl⟩
  · rintro n l w1 ⟨i, x, y, rfl, hfit, rfl, rfl, hi, rfl⟩
    obtain ⟨j, rfl⟩ := hfit.open
    refine nR20 ?_
    clear hfit
    refine run_seq ?_
    refine run_region ?_
    refine ops_test (ex_lss rfl rfl) (fun hp10 => ?_) (fun hp10 => ?_)
    · obtain ⟨a, rfl⟩ := hr.some_ (by omega)
      have hib : i < b.length := by omega
      have hc2 := b[i].toNat_lt
      have hx7 : rdB (b.take i) < 2 ^ 56 := by have := rdB_lt (b.take i) 7 (by simp; omega); simpa using this
      refine ops_nil ?_
      refine nR20 ?_
      refine run_seq ?_
      refine run_cond_true rfl ?_
      refine run_skip ?_
      refine run_seq ?_
      refine run_block ?_
      refine run_seq ?_
      refine run_region ?_
      refine ops_val (ex_idx Try.underlying34 ty5 rfl rfl rfl (by omega) (Nat.mul_one _)) ?_
      refine ops_val (ex_load ty5 rfl (hr.cells a rfl i (.int .u8 (b[i].toNat : Int)) (u8s_get hib))) ?_
      refine ops_val (ex_assign rfl) ?_
      refine ops_nil ?_
      refine nR20 ?_
      refine run_region ?_
      refine ops_val (ex_move rfl) ?_
      refine ops_val (ex_shl rfl rfl (by omega) (shl8 hx7)) ?_
      refine ops_val (ex_move rfl) ?_
      refine ops_val (ex_conv Try.underlying56 Try.underlying5 rfl (IntWalk.u64_in _ (by omega))) ?_
      refine nO20 ?_
      refine ops_val (ex_or rfl rfl (or8 hx7 hc2)) ?_
      refine ops_val (ex_assign rfl) ?_
      refine ops_nil ?_
      refine nR20 ?_
      refine run_nil (blk_normal ?_)
      refine run_region ?_
      refine ops_val (ex_add rfl rfl (IntWalk.i64_in _ (by omega))) ?_
      refine ops_val (ex_move rfl) ?_
      refine ops_nil ?_
      refine nR20 ?_
      refine run_nil (rnd_normal ?_)
      exact ⟨8 - (i + 1), by omega, i + 1, _, _, rfl, (fs (fn (fn (fs (fn (fn (fn (fs (fs (fs (fn (fn (fn (fn (fn (fn (fn (fn (fn (fn f0)))))))))))))))))))), by rw [List.take_add_one, List.getElem?_eq_getElem hib]; exact congrArg _ (rdB_snoc _ _).symm, rfl, by omega, rfl⟩
    · have hi8 : i = 8 := by omega
      subst hi8
      refine ops_nil ?_
      refine nR20 ?_
      refine run_seq ?_
      refine run_cond_false rfl ?_
      refine run_exit ?_
      refine rnd_exit ?_
      refine blk_exit ?_
      refine run_seq ?_
      refine run_region ?_
      refine ops_val (ex_move rfl) ?_
      refine ops_val (ex_assign rfl) ?_
      refine ops_nil ?_
      refine nR20 ?_
      refine run_ret ?_
      refine fin_ret1 rfl rfl ?_
      exact ⟨rfl, rfl⟩
def headV (b : Blk) : List Value := [.int .u64 (rd8 b : Int), .int .i64 (IntKind.i64.wrap (rd8 (b.drop 8) : Int)), .int .i64 (IntKind.i64.wrap (rd8 (b.drop 16) : Int)), .int .i64 (IntKind.i64.wrap (rd8 (b.drop 24) : Int))]
theorem pl76 : placesOf Try.prog 76 = some [(0, 1), (1, 1), (2, 1), (3, 1)] := by kernel_rfl
theorem results_cell_tmp {P : Program} {fn : Func} {l : List Value} {w : World} {r1 r2 : Tmp} {ty : TypeId} {zs : List Value} {sz bytes : Nat} {p : Addr} {v2 : Value} {cs : List Value} (hr : fn.results = #[.cell r1 ty, .tmp r2]) (ht : TyOk P ty zs sz bytes true) (h1 : nth l r1 = some (.pointer (some p))) (h2 : nth l r2 = some v2) (hl : cs.length = sz) (hc : ∀ j u, cs[j]? = some u → w.cell? (p.add j) = some u) : (results fn l.toArray).run P w = .ok (.tuple #[.agg cs.toArray, v2]) w := by
  have hl2 := run_loadVarN (P := P) (w := w) ht hl hc
  rw [nth_eq] at h1 h2
  simp [results, hr, h1, h2, asAddr, hl2]
set_option maxRecDepth 100000 in
set_option maxHeartbeats 4000000 in
theorem readHead_any (A : Option Addr) (b : Blk) (c : Nat) (w0 : World) (hr : Rd w0 A b.length 1 (u8s b)) (h64 : b.length = 64) (hc : b.length ≤ c) :
    Does Try.prog 51 #[.slice A b.length c] w0 (fun r w' => r = .tuple #[.agg (headV b).toArray, .bool (decide (rd8 b = rd8 (b.drop 56)))] ∧ Hp w0 w' [] []) := by
  refine does_of Try.func51 Try.ntmps51 rfl ?_
  refine nR27 ?_
  have H := Hp.refl w0
  refine run_seq ?_
  refine run_region ?_
  refine ops_alloc ty76 H ?_
  intro w1 g1 H1 hg1
  refine ops_val (ex_assign rfl) ?_
  refine ops_nil ?_
  refine nR27 ?_
  refine run_seq ?_
  refine run_mixZ 16 [(true, 0), (true, 1), (true, 2), (true, 3), (true, 4), (true, 5), (true, 6), (true, 7), (true, 8), (true, 9), (true, 10), (true, 11), (true, 12), (true, 13), (true, 14), (false, 15), (false, 16)] H1 [] mixed (by decide) (by kernel_rfl) ?_
  rintro w2 hw2
  have H2 := Hp.drew H1; rw [← hw2] at H2
  refine mixz_p rfl ?_
  refine mix1_val (fun wz hz => ex_move rfl) ?_
  refine mixz_p rfl ?_
  refine mix1_call (fun wz hz => ex_call gf65 rfl) (fun wz hz => take_any A b b.length c wz (hr.to0 hz) rfl (by omega) hc) ?_
  refine mixz_p rfl ?_
  refine mix1_val (fun wz hz => ex_move rfl) ?_
  refine mixz_p rfl ?_
  refine mix1_val (fun wz hz => ex_cutLo Try.underlying34 ty5 rfl rfl ((by omega))) ?_
  refine nZ27 ?_
  refine mixz_p rfl ?_
  refine mix1_call (fun wz hz => ex_call gf65 rfl) (fun wz hz => take_any (cutAddr A 8 c 1) (b.drop 8) (b.length - 8) (c - 8) wz (Rd.tail2 (hr.to0 hz) (by omega) hc) (by simp) (by omega) (by omega)) ?_
  refine mixz_p rfl ?_
  refine mix1_val (fun wz hz => ex_conv Try.underlying3 Try.underlying56 rfl (rfl)) ?_
  refine mixz_p rfl ?_
  refine mix1_val (fun wz hz => ex_move rfl) ?_
  refine mixz_p rfl ?_
  refine mix1_val (fun wz hz => ex_cutLo Try.underlying34 ty5 rfl rfl ((by omega))) ?_
  refine nZ27 ?_
  refine mixz_p rfl ?_
  refine mix1_call (fun wz hz => ex_call gf65 rfl) (fun wz hz => take_any (cutAddr A 16 c 1) (b.drop 16) (b.length - 16) (c - 16) wz (Rd.tail2 (hr.to0 hz) (by omega) hc) (by simp) (by omega) (by omega)) ?_
  refine mixz_p rfl ?_
  refine mix1_val (fun wz hz => ex_conv Try.underlying3 Try.underlying56 rfl (rfl)) ?_
  refine mixz_p rfl ?_
  refine mix1_val (fun wz hz => ex_move rfl) ?_
  refine mixz_p rfl ?_
  refine mix1_val (fun wz hz => ex_cutLo Try.underlying34 ty5 rfl rfl ((by omega))) ?_
  refine nZ27 ?_
  refine mixz_p rfl ?_
  refine mix1_call (fun wz hz => ex_call gf65 rfl) (fun wz hz => take_any (cutAddr A 24 c 1) (b.drop 24) (b.length - 24) (c - 24) wz (Rd.tail2 (hr.to0 hz) (by omega) hc) (by simp) (by omega) (by omega)) ?_
  refine mixz_p rfl ?_
  refine mix1_val (fun wz hz => ex_conv Try.underlying3 Try.underlying56 rfl (rfl)) ?_
  refine mixz_p rfl ?_
  refine mix1_val (fun wz hz => ex_build ty76 pl76 rfl rfl) ?_
  refine mixz_o rfl ?_
  refine ops_alloc ty76 H2 ?_
  intro w3 g3 H3 hg3
  refine ops_nil ?_
  refine ⟨fun hne => H3.pick [] (by decide), ?_⟩
  refine nZ27 ?_
  refine mixz_o rfl ?_
  refine ops_store ty76 H3 1 (vs := headV b) rfl rfl rfl rfl rfl (Nat.le_refl _) rfl ?_
  intro w4 H4
  change Hp _ _ _ [_, (some _, _, headV b)] at H4
  refine ops_nil ?_
  refine ⟨fun hne => absurd rfl hne, ?_⟩
  refine nZ27 ?_
  refine mixz_nil ?_
  refine nR27 ?_
  refine run_seq ?_
  refine run_mixH [(true, 0), (true, 1), (true, 2), (true, 3), (true, 4), (true, 5), (true, 6), (false, 7), (true, 8)] H4 [1] mixed (by decide) (by kernel_rfl) ?_
  rintro w5 hw5
  have H5 := Hp.drew H4; rw [← hw5] at H5
  refine mix_p rfl ?_
  refine mix1_val (fun wz hz => ex_loadN ty76 rfl (vs := headV b) rfl (cells_of hz (i := 0) (o := 0) rfl (fun j u hu => by rw [Nat.zero_add]; exact hu))) ?_
  refine mix_p rfl ?_
  refine mix1_val (fun wz hz => ex_fieldAddr fl76_0 rfl) ?_
  refine mix_p rfl ?_
  refine mix1_val (fun wz hz => ex_load ty56 rfl (hz.cell (i := 0) rfl rfl)) ?_
  refine mix_p rfl ?_
  refine mix1_val (fun wz hz => ex_move rfl) ?_
  refine nM27 ?_
  refine mix_p rfl ?_
  refine mix1_val (fun wz hz => ex_cutLo Try.underlying34 ty5 rfl rfl ((by omega))) ?_
  refine mix_p rfl ?_
  refine mix1_call (fun wz hz => ex_call gf65 rfl) (fun wz hz => take_any (cutAddr A 56 c 1) (b.drop 56) (b.length - 56) (c - 56) wz (Rd.tail2 (hr.to0 hz) (by omega) hc) (by simp) (by omega) (by omega)) ?_
  refine mix_p rfl ?_
  refine mix1_val (fun wz hz => ex_eql rfl rfl) ?_
  refine mix_o rfl ?_
  refine ops_store ty76 H5 0 (vs := headV b) rfl rfl rfl rfl rfl (Nat.le_refl _) rfl ?_
  intro w6 H6
  change Hp _ _ _ [(some _, _, headV b), _] at H6
  refine ops_nil ?_
  refine ⟨H6.pick [1] (by decide), ?_⟩
  refine nM27 ?_
  refine mix_p rfl ?_
  refine mix1_val (fun wz hz => ex_assign rfl) ?_
  refine mix_nil ?_
  refine nR27 ?_
  refine run_ret ?_
  exact ⟨_, results_cell_tmp rfl ty76 rfl rfl (cs := headV b) rfl (cells_of H6 (i := 0) (o := 0) rfl (fun j u hu => by rw [Nat.zero_add]; exact hu)), by rw [decide_eq_decide.2 (show ((rd8 b : Int) = (rd8 (b.drop 56) : Int)) ↔ rd8 b = rd8 (b.drop 56) by omega)], H6.pick [] (by decide)⟩
end Go.Proofs.Ytgkciibfpenjpaa
