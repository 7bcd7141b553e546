/- Walks of layer 2, printed by wip/gen/codec.py. -/
import Derived.Test.YtgkciibfpenjpaaNrm
import Derived.Test.YtgkciibfpenjpaaWalI
namespace Go.Proofs.Ytgkciibfpenjpaa
open Go Go.RowKit
set_option linter.unusedVariables false
attribute [local irreducible] Still Ops Does Cd
theorem bits_or_i (a b : Nat) (ha : a < 2 ^ 62) (hb : b < 2 ^ 62) : bits .or .i64 (a : Int) (b : Int) = ((a ||| b : Nat) : Int) := by
  have h1 : a < 2 ^ IntKind.i64.bits := by show a < 2 ^ 64; omega
  have h2 : b < 2 ^ IntKind.i64.bits := by show b < 2 ^ 64; omega
  simp only [bits, BitVec.toNat_or, ofInt_toNat .i64 a h1, ofInt_toNat .i64 b h2]
  have := Nat.or_lt_two_pow ha hb
  exact IntWalk.i64_in _ (by omega)
theorem orp {a b k c : Nat} (h : a < 2 ^ k) (hb : 2 ^ k * b < 2 ^ 62) (ha : a < 2 ^ 62) (hc : a + 2 ^ k * b = c) : bits .or .i64 (a : Int) ((2 ^ k * b : Nat) : Int) = (c : Int) := by
  rw [bits_or_i _ _ ha hb, Nat.or_comm, ← Nat.two_pow_add_eq_or_of_lt h, Nat.add_comm, hc]
theorem shi (x k : Nat) (hk : k ≤ 40) (h : 2 ^ k * x < 2 ^ 62) : IntKind.i64.wrap ((x : Int) * 2 ^ (min ((k : Nat) : Int).toNat IntKind.i64.bits)) = ((2 ^ k * x : Nat) : Int) := by
  have e : min ((k : Nat) : Int).toNat IntKind.i64.bits = k := by show min k 64 = k; omega
  rw [e, show ((x : Int) * 2 ^ k) = ((2 ^ k * x : Nat) : Int) by rw [Nat.mul_comm]; simp]
  exact IntWalk.i64_in _ (by omega)
theorem le4_sum (n : Nat) (h : n < 2 ^ 31) : n % 256 + 2 ^ 8 * (n / 256 % 256) = n % 65536 ∧ n % 65536 + 2 ^ 16 * (n / 65536 % 256) = n % 16777216 ∧ n % 16777216 + 2 ^ 24 * (n / 16777216 % 256) = n := by omega
/-- The first of a record's bytes, from its length on. -/
def fbq (b : Blk) (i : Nat) : Blk := ((frm b).take (64 * i)).drop 4
theorem fbq_len {b : Blk} {i : Nat} (h : i ≤ nbk b.length) : (fbq b i).length = 64 * i - 4 := by
  have := frm_len b
  simp [fbq]; omega
theorem frm_eq (b : Blk) : frm b = le4 b.length ++ (b ++ List.replicate (padn b.length) 0) := by simp [frm, outq]
theorem fbq_one {b : Blk} : chk (frm b) 0 = le4 b.length ++ fbq b 1 := by
  unfold chk fbq
  rw [Nat.mul_zero, List.drop_zero, Nat.mul_one, frm_eq]
  simp [le4]
theorem fbq_succ (b : Blk) {i : Nat} (h1 : 1 ≤ i) (h : i < nbk b.length) : fbq b i ++ chk (frm b) i = fbq b (i + 1) := by
  unfold fbq chk
  have hl := frm_len b
  have e : (frm b).take (64 * (i + 1)) = (frm b).take (64 * i) ++ ((frm b).drop (64 * i)).take 64 := by rw [show 64 * (i + 1) = 64 * i + 64 by omega, List.take_add]
  rw [e, List.drop_append_of_le_length (by simp; omega)]
theorem fbq_take {b : Blk} {i : Nat} (h : b.length ≤ 64 * i - 4) (hi : 1 ≤ i) : ∃ t, fbq b i = b ++ t := by
  unfold fbq
  rw [List.drop_take, frm_eq, List.drop_append_of_le_length (by simp [le4]), show (le4 b.length).drop 4 = [] by simp [le4], List.nil_append, show 64 * i - 4 = b.length + (64 * i - 4 - b.length) by omega, List.take_length_add_append]
  exact ⟨_, rfl⟩
def Wl.tookN (W : Wl) (D : Dk) (rs : List Blk) : Nat → Wl
  | 0 => W
  | k + 1 => (W.tookN D rs k).took D (rs.getD k [])
theorem tookN_same (W : Wl) (D : Dk) (rs : List Blk) : ∀ k, (W.tookN D rs k).dead = W.dead ∧ (W.tookN D rs k).turn = W.turn ∧ (W.tookN D rs k).first = W.first ∧ (W.tookN D rs k).told = W.told
  | 0 => ⟨rfl, rfl, rfl, rfl⟩
  | k + 1 => tookN_same W D rs k
theorem tookN_recs (W : Wl) (D : Dk) (rs : List Blk) : ∀ k, k ≤ rs.length → (W.tookN D rs k).recs = W.recs ++ rs.take k
  | 0, _ => by simp [Wl.tookN]
  | k + 1, h => by
    show (W.tookN D rs k).recs ++ [rs.getD k []] = _
    rw [tookN_recs W D rs k (by omega), List.append_assoc, List.take_add_one, List.getD_eq_getElem?_getD, List.getElem?_eq_getElem (by omega)]
    rfl
/-- The records lie there, one behind the other. -/
def Laid (D : Dk) (W : Wl) (rs : List Blk) : Prop := ∀ k (h : k < rs.length), ∀ j, j < nbk rs[k].length → D.show (2 + ((W.tookN D rs k).fin + j) % (D.kept.length - 2)) = chk (frm rs[k]) j
def Wl.found (W : Wl) (D : Dk) (rs : List Blk) : Wl := { W.tookN D rs rs.length with told := (W.tookN D rs rs.length).recs.length }
theorem Hp.rdO {w0 w : World} {S : List Nat} {es : List Ent} (H : Hp w0 w S es) {i g o nn : Nat} {T : TypeId} {pre xs sp : List Value} (hi : es[i]? = some (some g, T, pre ++ (xs ++ sp))) (ho : pre.length = o) (hn : xs.length = nn * 1) : Rd w (some ⟨g, o, none⟩) nn 1 xs := by
  refine ⟨hn, fun a hx j u hu => ?_, by simp⟩
  simp only [Option.some.injEq] at hx
  subst hx
  rw [Addr.add_lit]
  refine H.cell (i := i) hi ?_
  rw [List.getElem?_append_right (by omega), ho, Nat.add_sub_cancel_left, List.getElem?_append_left (lt_of_get hu)]
  exact hu
theorem read_live (gd gk : Nat) (gw : Option Nat) (cw : Nat) (sp : List Value) (D : Dk) (w0 : World) (H0 : Hp w0 w0 (bl (dRows gd gk gw cw sp D)) (dRows gd gk gw cw sp D)) (hD : DOk D gw cw sp) (hdn : D.down = false) (n : Nat) (hn : n < D.kept.length) (hm : D.wait.length ≤ 1000000000) :
    Does Try.prog 50 #[.pointer (some ⟨gd, 0, none⟩), .int .i64 (n : Int)] w0 (fun r w' => ∃ g cap s, r = .tuple #[.slice (some ⟨g, 0, none⟩) 64 cap, .int .i64 ((0 : Nat) : Int)] ∧ 64 ≤ cap ∧ cap ≤ (u8s (D.show n) ++ s).length ∧ Hp w0 w' (bl (dRows gd gk gw cw sp D)) (dRows gd gk gw cw sp D ++ [(some g, 5, u8s (D.show n) ++ s)])) := by
  refine (read_any gd gk gw cw sp D w0 H0 hD (n : Int) (by omega)).mono ?_
  rw [read_ok hdn hn]
  have e : (D.show n).length = 64 := show_len hD hn
  rintro r w' ⟨g, cap, s, h1, h2, h3, h4, h5⟩
  simp only [e] at h1 h2
  cases g with
  | none => have := h4 rfl; omega
  | some g => exact ⟨g, cap, s, h1, h2, by rw [Nat.mul_one] at h3; exact h3, h5⟩
set_option maxRecDepth 100000 in
set_option maxHeartbeats 4000000 in
theorem block_any (m : Mw) (D : Dk) (W : Wl) (w0 : World) (H0 : Hp w0 w0 (bl (wRows m D W)) (wRows m D W)) (h : WOk w0 m D W) (hdn : D.down = false) (hwt : D.wait.length ≤ 1000000000) (i : Nat) (hi : i < D.kept.length - 2) :
    Does Try.prog 66 #[.pointer (some ⟨m.gv, 0, none⟩), .int .i64 (i : Int)] w0 (fun r w' => ∃ g cap s, r = .slice (some ⟨g, 0, none⟩) 64 cap ∧ 64 ≤ cap ∧ cap ≤ (u8s (D.show (2 + i)) ++ s).length ∧ Hp w0 w' (bl (wRows m D W)) (wRows m D W ++ [(some g, 5, u8s (D.show (2 + i)) ++ s)])) := by
  refine does_of Try.func66 Try.ntmps66 rfl ?_
  refine nR20 ?_
  have H := H0
  obtain ⟨hD, hlst, hrc, hrs, hrn, hpl, hpc, hps, hpn, hmost, hlong, hsize, hfin, hplb, hfirst, hturn, hused, htold⟩ := id h
  have hkept := hD.most
  refine run_seq ?_
  refine run_region ?_
  refine ops_val (ex_assign rfl) ?_
  refine ops_nil ?_
  refine nR20 ?_
  refine run_seq ?_
  refine run_region ?_
  refine ops_val (ex_move rfl) ?_
  refine ops_val (ex_nilCheck rfl) ?_
  refine ops_val (ex_fieldAddr fl58_0 rfl) ?_
  refine ops_val (ex_load ty27 rfl (H.cell (i := 3) rfl rfl)) ?_
  refine nO20 ?_
  refine ops_val (ex_move rfl) ?_
  refine ops_val (ex_add rfl rfl ((IntWalk.i64_in _ (by omega)).trans (show (2 + (i : Int)) = ((2 + i : Nat) : Int) by omega))) ?_
  refine ops_call (ex_call gf50 rfl) (read_live m.gd m.gk m.gw m.cw m.sp D _ (H.pick [0, 1, 2] (by decide)).here hD hdn (2 + i) (by omega) hwt) ?_
  rintro r w1 ⟨g, cap, s, hr, hcap, hcs, Hc⟩
  rw [hr]
  have H1 := (H.callr [0, 1, 2] rfl Hc).pick [6, 7, 8, 3, 4, 5, 9] (by decide)
  refine ops_val (ex_move rfl) ?_
  refine nO20 ?_
  refine ops_val (ex_extract rfl rfl) ?_
  refine ops_val (ex_extract rfl rfl) ?_
  refine ops_val (ex_assign rfl) ?_
  refine ops_val (ex_assign rfl) ?_
  refine ops_nil ?_
  refine nR20 ?_
  refine run_seq ?_
  refine run_region ?_
  refine ops_val (ex_move rfl) ?_
  refine ops_call (ex_call gf36 rfl) ((must_any 0 _).d (fun _ _ hx => hx.1 rfl)) ?_
  rintro r wz ⟨_, hwz⟩
  rw [hwz]
  refine ops_nil ?_
  refine nR20 ?_
  refine run_seq ?_
  refine run_region ?_
  refine ops_val (ex_move rfl) ?_
  refine ops_val (ex_assign rfl) ?_
  refine ops_nil ?_
  refine nR20 ?_
  refine run_ret ?_
  refine fin_ret1 rfl rfl ?_
  exact ⟨g, cap, s, rfl, hcap, hcs, H1⟩
set_option maxRecDepth 100000 in
set_option maxHeartbeats 4000000 in
theorem find_any (m : Mw) (D : Dk) (W : Wl) (w0 : World) (H0 : Hp w0 w0 (bl (wRows m D W)) (wRows m D W)) (h : WOk w0 m D W) (hdn : D.down = false) (hwt : D.wait.length ≤ 1000000000) (rs : List Blk) (hW : W.recs = []) (hlaid : Laid D W rs) (hrm : rs.length ≤ 16384) (hrR : rs.length ≤ (D.kept.length - 2)) (hrl : ∀ b ∈ rs, b.length ≤ 16384) (hru : used rs ≤ 2 ^ 39) :
    Does Try.prog 52 #[.pointer (some ⟨m.gv, 0, none⟩), .agg [.int .u64 (W.turn : Int), .int .i64 (W.first : Int), .int .i64 ((W.first + rs.length : Nat) : Int), .int .i64 (W.fin : Int)].toArray] w0 (fun _ w' => WPost w0 w' (bl (wRows m D W)) m (D) (W.found D rs)) := by
  refine does_of Try.func52 Try.ntmps52 rfl ?_
  refine nR128 ?_
  have H := H0
  obtain ⟨hD, hlst, hrc, hrs, hrn, hpl, hpc, hps, hpn, hmost, hlong, hsize, hfin, hplb, hfirst, hturn, hused, htold⟩ := id h
  have hkept := hD.most
  have hlen0 : W.recs.length = 0 := by rw [hW]; rfl
  refine run_seq ?_
  refine run_region ?_
  refine ops_box rfl rfl H ?_
  intro w1 gh H1 hgh
  refine ops_nil ?_
  refine nR128 ?_
  refine run_seq ?_
  refine run_region ?_
  refine ops_val (ex_move rfl) ?_
  refine ops_call_eq (ex_call gf38 rfl) (ring_p m.gv m.gd D.kept.length _ _ _ (H1.cell (i := 3) rfl rfl) (H1.cell (i := 0) rfl rfl) hkept) ?_
  refine ops_val (ex_assign rfl) ?_
  refine ops_nil ?_
  refine nR128 ?_
  refine run_seq ?_
  refine run_seq ?_
  refine run_region ?_
  refine ops_val (ex_move rfl) ?_
  refine ops_false (ex_lss rfl rfl) (by omega) ?_
  refine ops_val (ex_move rfl) ?_
  refine nO128 ?_
  refine ops_yes rfl ?_
  refine ops_val (ex_fieldAddr fl76_3 rfl) ?_
  refine ops_yes rfl ?_
  refine ops_val (ex_load ty3 rfl (H1.cell (i := 6) rfl rfl)) ?_
  refine nO128 ?_
  refine ops_yes rfl ?_
  refine ops_false (ex_lss rfl rfl) (by omega) ?_
  refine ops_val (ex_pick_f rfl rfl) ?_
  refine ops_val (ex_move rfl) ?_
  refine nO128 ?_
  refine ops_yes rfl ?_
  refine ops_val (ex_fieldAddr fl76_3 rfl) ?_
  refine ops_yes rfl ?_
  refine ops_val (ex_load ty3 rfl (H1.cell (i := 6) rfl rfl)) ?_
  refine nO128 ?_
  refine ops_yes rfl ?_
  refine ops_val (ex_move rfl) ?_
  refine ops_yes rfl ?_
  refine ops_false (ex_geq rfl rfl) (by omega) ?_
  refine ops_val (ex_pick_f rfl rfl) ?_
  refine ops_val (ex_move rfl) ?_
  refine nO128 ?_
  refine ops_yes rfl ?_
  refine ops_val (ex_fieldAddr fl76_1 rfl) ?_
  refine ops_yes rfl ?_
  refine ops_val (ex_load ty3 rfl (H1.cell (i := 6) rfl rfl)) ?_
  refine nO128 ?_
  refine ops_yes rfl ?_
  refine ops_false (ex_lss rfl rfl) (by omega) ?_
  refine ops_val (ex_pick_f rfl rfl) ?_
  refine ops_val (ex_move rfl) ?_
  refine nO128 ?_
  refine ops_yes rfl ?_
  refine ops_val (ex_fieldAddr fl76_2 rfl) ?_
  refine ops_yes rfl ?_
  refine ops_val (ex_load ty3 rfl (H1.cell (i := 6) rfl rfl)) ?_
  refine nO128 ?_
  refine ops_yes rfl ?_
  refine ops_val (ex_fieldAddr fl76_1 rfl) ?_
  refine ops_yes rfl ?_
  refine ops_val (ex_load ty3 rfl (H1.cell (i := 6) rfl rfl)) ?_
  refine nO128 ?_
  refine ops_yes rfl ?_
  refine ops_false (ex_lss rfl rfl) (by omega) ?_
  refine ops_val (ex_pick_f rfl rfl) ?_
  refine ops_nil ?_
  refine nR128 ?_
  refine run_cond_false rfl ?_
  refine run_skip ?_
  refine run_seq ?_
  refine run_block ?_
  refine run_loop (fun n l w => ∃ (k : Nat) (m1 : Mw), rs.length - k = n ∧ Fits [some (.pointer (some ⟨m.gv, 0, none⟩)), none, none, some (.pointer (some ⟨gh, 0, none⟩)), some (.int .i64 ((D.kept.length : Int) - 2)), none, none, none, none, none, none, none, none, none, none, none, none, none, none, none, none, none, none, none, none, none, none, none, none, none, none, none, none, none, none, none, none, none, none, none, none, none, none, none, none, none, none, none, none, none, none, none, none, none, none, none, none, none, none, none, none, none, none, none, none, none, none, none, none, none, none, none, none, none, none, none, none, none, none, none, none, none, none, none, none, none, none, none, none, none, none, none, none, none, none, none, none, none, none, none, none, none, none, none, none, none, none, none, none, none, none, none, none, none, none, none, none, none, none, none, none, none, none, none, none, none, none, none] l ∧ k ≤ rs.length ∧ m1.gd = m.gd ∧ m1.gk = m.gk ∧ m1.gv = m.gv ∧ XsOk w0 m.xs m1.xs ∧ WOk w m1 D (W.tookN D rs k) ∧ Lsw w (wRows m1 D (W.tookN D rs k) ++ [(some gh, 76, [.int .u64 (W.turn : Int), .int .i64 (W.first : Int), .int .i64 ((W.first + rs.length : Nat) : Int), .int .i64 (W.fin : Int)])]) m1.xs (W.tookN D rs k).recs ∧ Hp w0 w (bl (wRows m D W)) (wRows m1 D (W.tookN D rs k) ++ [(some gh, 76, [.int .u64 (W.turn : Int), .int .i64 (W.first : Int), .int .i64 ((W.first + rs.length : Nat) : Int), .int .i64 (W.fin : Int)])])) (rs.length) ?_ ?_
  · refine ⟨0, m, rfl, (fs (fn (fn (fs (fs (fn (fn (fn (fn (fn (fn (fn (fn (fn (fn (fn (fn (fn (fn (fn (fn (fn (fn (fn (fn (fn (fn (fn (fn (fn (fn (fn (fn (fn (fn (fn (fn (fn (fn (fn (fn (fn (fn (fn (fn (fn (fn (fn (fn (fn (fn (fn (fn (fn (fn (fn (fn (fn (fn (fn (fn (fn (fn (fn (fn (fn (fn (fn (fn (fn (fn (fn (fn (fn (fn (fn (fn (fn (fn (fn (fn (fn (fn (fn (fn (fn (fn (fn (fn (fn (fn (fn (fn (fn (fn (fn (fn (fn (fn (fn (fn (fn (fn (fn (fn (fn (fn (fn (fn (fn (fn (fn (fn (fn (fn (fn (fn (fn (fn (fn (fn (fn (fn (fn (fn (fn (fn (fn f0)))))))))))))))))))))))))))))))))))))))))))))))))))))))))))))))))))))))))))))))))))))))))))))))))))))))))))))))))))))))))))))))), Nat.zero_le _, rfl, rfl, rfl, XsOk.refl _ _, h.move H1 [0, 1, 2, 3, 4, 5] rfl, hlst.to H1, H1⟩
  · rintro n l w2 ⟨k, m1, rfl, hfit, hk, e1, e2, e3, hxs, hw1, hl, H2⟩
    obtain ⟨j, rfl⟩ := hfit.open
    refine nR128 ?_
    clear hfit
    obtain ⟨gd1, gk1, gw1, cw1, sp1, gv1, gr1, cr1, xs1, sr1, gp1, cp1, sq1⟩ := m1
    simp only at e1 e2 e3 hxs
    subst e1 e2 e3
    have hsm := tookN_same W D rs k
    have hrk := tookN_recs W D rs k hk
    rw [hW, List.nil_append] at hrk
    have hlk : (W.tookN D rs k).recs.length = k := by rw [hrk]; simp; omega
    have hfk := hw1.fin
    have HR := H2
    have H2 := (H2.pick [0, 1, 2, 3, 4, 5, 6] (by decide)).here
    change Hp w2 w2 (bl (wRows ⟨m.gd, m.gk, gw1, cw1, sp1, m.gv, gr1, cr1, xs1, sr1, gp1, cp1, sq1⟩ D (W.tookN D rs k) ++ [(some gh, 76, [.int .u64 (W.turn : Int), .int .i64 (W.first : Int), .int .i64 ((W.first + rs.length : Nat) : Int), .int .i64 (W.fin : Int)])])) (wRows ⟨m.gd, m.gk, gw1, cw1, sp1, m.gv, gr1, cr1, xs1, sr1, gp1, cp1, sq1⟩ D (W.tookN D rs k) ++ [(some gh, 76, [.int .u64 (W.turn : Int), .int .i64 (W.first : Int), .int .i64 ((W.first + rs.length : Nat) : Int), .int .i64 (W.fin : Int)])]) at H2
    refine run_seq ?_
    refine run_seq ?_
    refine run_mixH [(true, 0), (true, 1), (true, 2), (true, 3), (true, 4), (true, 5), (true, 6), (true, 7), (true, 8), (true, 9), (true, 10), (true, 11), (true, 12), (true, 13), (true, 14), (true, 15), (true, 16), (true, 17), (true, 18), (true, 19), (true, 20), (true, 21)] H2 [3, 6] mixed (by decide) (by kernel_rfl) ?_
    rintro w3 hw3
    have H3 := Hp.drew H2; rw [← hw3] at H3
    refine mix_p rfl ?_
    refine mix1_val (fun wz hz => ex_move rfl) ?_
    refine mix_p rfl ?_
    refine mix1_val (fun wz hz => ex_nilCheck rfl) ?_
    refine mix_p rfl ?_
    refine mix1_val (fun wz hz => ex_fieldAddr fl58_3 rfl) ?_
    refine mix_p rfl ?_
    refine mix1_val (fun wz hz => ex_load ty3 rfl (hz.cell (i := 0) rfl rfl)) ?_
    refine nM128 ?_
    refine mix_p rfl ?_
    refine mix1_val (fun wz hz => ex_move rfl) ?_
    refine mix_p rfl ?_
    refine mix1_val (fun wz hz => ex_nilCheck rfl) ?_
    refine mix_p rfl ?_
    refine mix1_val (fun wz hz => ex_fieldAddr fl58_4 rfl) ?_
    refine mix_p rfl ?_
    refine mix1_val (fun wz hz => ex_load ty29 rfl (hz.cell (i := 0) rfl rfl)) ?_
    refine nM128 ?_
    refine mix_p rfl ?_
    refine mix1_val (fun wz hz => ex_len_slice Try.underlying29 rfl) ?_
    refine mix_p rfl ?_
    refine mix1_val (fun wz hz => ex_add rfl rfl ((IntWalk.i64_in _ (by rw [hlk, hsm.2.2.1]; omega)).trans (show ((W.tookN D rs k).first : Int) + ((W.tookN D rs k).recs.length : Int) = ((W.first + k : Nat) : Int) by rw [hlk, hsm.2.2.1]; omega))) ?_
    refine mix_p rfl ?_
    refine mix1_val (fun wz hz => ex_fieldAddr fl76_2 rfl) ?_
    refine mix_p rfl ?_
    refine mix1_val (fun wz hz => ex_load ty3 rfl (hz.cell (i := 1) rfl rfl)) ?_
    refine nM128 ?_
    refine mix_p rfl ?_
    refine mix1_test (fun wz hz => ex_lss rfl rfl) (fun hp50 => ?_) (fun hp50 => ?_)
    · have hkl : k < rs.length := by omega
      have hlr := hrl _ (List.getElem_mem hkl)
      refine mix_p rfl ?_
      refine mix1_val (fun wz hz => ex_move rfl) ?_
      refine mix_p rfl ?_
      refine mix1_yes rfl ?_
      refine mix1_val (fun wz hz => ex_move rfl) ?_
      refine mix_p rfl ?_
      refine mix1_yes rfl ?_
      refine mix1_val (fun wz hz => ex_nilCheck rfl) ?_
      refine mix_p rfl ?_
      refine mix1_yes rfl ?_
      refine mix1_val (fun wz hz => ex_fieldAddr fl58_4 rfl) ?_
      refine nM128 ?_
      refine mix_p rfl ?_
      refine mix1_yes rfl ?_
      refine mix1_val (fun wz hz => ex_load ty29 rfl (hz.cell (i := 0) rfl rfl)) ?_
      refine mix_p rfl ?_
      refine mix1_yes rfl ?_
      refine mix1_val (fun wz hz => ex_len_slice Try.underlying29 rfl) ?_
      refine mix_p rfl ?_
      refine mix1_yes rfl ?_
      refine mix1_val (fun wz hz => ex_move rfl) ?_
      refine mix_p rfl ?_
      refine mix1_yes rfl ?_
      refine mix1_true (fun wz hz => ex_leq rfl rfl) (by rw [hlk]; omega) ?_
      refine nM128 ?_
      refine mix_p rfl ?_
      refine mix1_val (fun wz hz => ex_pick_t rfl rfl) ?_
      refine mix_nil ?_
      refine nR128 ?_
      refine run_cond_true rfl ?_
      refine run_skip ?_
      refine run_block ?_
      refine run_seq ?_
      refine run_region ?_
      refine ops_val (ex_move rfl) ?_
      refine ops_val (ex_move rfl) ?_
      refine ops_val (ex_nilCheck rfl) ?_
      refine ops_val (ex_fieldAddr fl58_6 rfl) ?_
      refine nO128 ?_
      refine ops_val (ex_load ty3 rfl (H3.cell (i := 3) rfl rfl)) ?_
      have hw2 : WOk w3 ⟨m.gd, m.gk, gw1, cw1, sp1, m.gv, gr1, cr1, xs1, sr1, gp1, cp1, sq1⟩ D (W.tookN D rs k) := { hw1 with lst := (hl.to H3).less (fun x hx => bl_pick (is := [0, 1, 2, 3, 4, 5]) H3 x hx) }
      refine ops_call (ex_call gf66 rfl) (block_any ⟨m.gd, m.gk, gw1, cw1, sp1, m.gv, gr1, cr1, xs1, sr1, gp1, cp1, sq1⟩ D (W.tookN D rs k) w3 (H3.pick [0, 1, 2, 3, 4, 5] (by decide)).here hw2 hdn hwt ((W.tookN D rs k).fin) hfk) ?_
      rintro r w4 ⟨g5, cap5, s5, hr5, hc5, hs5, Hc⟩
      rw [hr5]
      have H4 := (H3.callr [0, 1, 2, 3, 4, 5] rfl Hc).pick [7, 8, 9, 10, 11, 12, 6, 13] (by decide)
      have hnb := nbk_pos rs[k].length
      have hb0 := hlaid k hkl 0 hnb
      rw [Nat.add_zero, Nat.mod_eq_of_lt hfk, fbq_one] at hb0
      rw [hb0] at H4 hs5
      have hc4 : u8s (le4 rs[k].length ++ fbq rs[k] 1) ++ s5 = [Value.int .u8 ((rs[k].length % 256 : Nat) : Int), .int .u8 ((rs[k].length / 256 % 256 : Nat) : Int), .int .u8 ((rs[k].length / 65536 % 256 : Nat) : Int), .int .u8 ((rs[k].length / 16777216 % 256 : Nat) : Int)] ++ (u8s (fbq rs[k] 1) ++ s5) := by rw [u8s_append, ← le4_cells, List.append_assoc]
      rw [hc4] at H4 hs5
      have hls := le4_sum rs[k].length (by omega)
      have hl1 := fbq_len (b := rs[k]) (i := 1) (by omega)
      have hu5 : cap5 - 4 ≤ (u8s (fbq rs[k] 1) ++ s5).length := by rw [List.length_append] at hs5; simp only [List.length_cons, List.length_nil] at hs5; omega
      refine ops_val (ex_assign rfl) ?_
      refine ops_nil ?_
      refine nR128 ?_
      refine run_seq ?_
      refine run_mixH [(true, 0), (true, 1), (true, 2), (true, 3), (true, 4), (true, 5), (true, 6), (true, 7), (true, 8), (true, 9), (true, 10), (true, 11), (true, 12), (true, 13), (true, 14), (true, 15), (true, 16), (true, 17), (true, 18), (true, 19), (true, 20), (true, 21), (true, 22)] H4 [7] mixed (by decide) (by kernel_rfl) ?_
      rintro w5 hw5
      have H5 := Hp.drew H4; rw [← hw5] at H5
      refine mix_p rfl ?_
      refine mix1_val (fun wz hz => ex_move rfl) ?_
      refine mix_p rfl ?_
      refine mix1_val (fun wz hz => ex_idx Try.underlying34 ty5 rfl rfl (i := 0) rfl (by omega) (Nat.mul_one _)) ?_
      refine mix_p rfl ?_
      refine mix1_val (fun wz hz => ex_load ty5 rfl (hz.cell (i := 0) rfl rfl)) ?_
      refine mix_p rfl ?_
      refine mix1_val (fun wz hz => ex_conv Try.underlying3 Try.underlying5 rfl (IntWalk.i64_in _ (by omega))) ?_
      refine nM128 ?_
      refine mix_p rfl ?_
      refine mix1_val (fun wz hz => ex_move rfl) ?_
      refine mix_p rfl ?_
      refine mix1_val (fun wz hz => ex_idx Try.underlying34 ty5 rfl rfl (i := 1) rfl (by omega) (Nat.mul_one _)) ?_
      refine mix_p rfl ?_
      refine mix1_val (fun wz hz => ex_load ty5 rfl (hz.cell (i := 0) rfl rfl)) ?_
      refine mix_p rfl ?_
      refine mix1_val (fun wz hz => ex_conv Try.underlying3 Try.underlying5 rfl (IntWalk.i64_in _ (by omega))) ?_
      refine nM128 ?_
      refine mix_p rfl ?_
      refine mix1_val (fun wz hz => ex_shl rfl rfl (by omega) (shi _ 8 (by decide) (by omega))) ?_
      refine mix_p rfl ?_
      refine mix1_val (fun wz hz => ex_or rfl rfl (orp (by omega) (by omega) (by omega) hls.1)) ?_
      refine mix_p rfl ?_
      refine mix1_val (fun wz hz => ex_move rfl) ?_
      refine mix_p rfl ?_
      refine mix1_val (fun wz hz => ex_idx Try.underlying34 ty5 rfl rfl (i := 2) rfl (by omega) (Nat.mul_one _)) ?_
      refine nM128 ?_
      refine mix_p rfl ?_
      refine mix1_val (fun wz hz => ex_load ty5 rfl (hz.cell (i := 0) rfl rfl)) ?_
      refine mix_p rfl ?_
      refine mix1_val (fun wz hz => ex_conv Try.underlying3 Try.underlying5 rfl (IntWalk.i64_in _ (by omega))) ?_
      refine mix_p rfl ?_
      refine mix1_val (fun wz hz => ex_shl rfl rfl (by omega) (shi _ 16 (by decide) (by omega))) ?_
      refine mix_p rfl ?_
      refine mix1_val (fun wz hz => ex_or rfl rfl (orp (by omega) (by omega) (by omega) hls.2.1)) ?_
      refine nM128 ?_
      refine mix_p rfl ?_
      refine mix1_val (fun wz hz => ex_move rfl) ?_
      refine mix_p rfl ?_
      refine mix1_val (fun wz hz => ex_idx Try.underlying34 ty5 rfl rfl (i := 3) rfl (by omega) (Nat.mul_one _)) ?_
      refine mix_p rfl ?_
      refine mix1_val (fun wz hz => ex_load ty5 rfl (hz.cell (i := 0) rfl rfl)) ?_
      refine mix_p rfl ?_
      refine mix1_val (fun wz hz => ex_conv Try.underlying3 Try.underlying5 rfl (IntWalk.i64_in _ (by omega))) ?_
      refine nM128 ?_
      refine mix_p rfl ?_
      refine mix1_val (fun wz hz => ex_shl rfl rfl (by omega) (shi _ 24 (by decide) (by omega))) ?_
      refine mix_p rfl ?_
      refine mix1_val (fun wz hz => ex_or rfl rfl (orp (by omega) (by omega) (by omega) hls.2.2)) ?_
      refine mix_p rfl ?_
      refine mix1_val (fun wz hz => ex_assign rfl) ?_
      refine mix_nil ?_
      refine nR128 ?_
      refine run_seq ?_
      refine run_seq ?_
      refine run_region ?_
      refine ops_val (ex_move rfl) ?_
      refine ops_false (ex_lss rfl rfl) (by omega) ?_
      refine ops_val (ex_move rfl) ?_
      refine nO128 ?_
      refine ops_yes rfl ?_
      refine ops_val (ex_move rfl) ?_
      refine ops_yes rfl ?_
      refine ops_false (ex_gtr rfl rfl) (by omega) ?_
      refine ops_val (ex_pick_f rfl rfl) ?_
      refine ops_nil ?_
      refine nR128 ?_
      refine run_cond_false rfl ?_
      refine run_skip ?_
      refine run_seq ?_
      refine run_region ?_
      refine ops_val (ex_move rfl) ?_
      have hca : cutAddr (some ⟨g5, 0, none⟩) (Int.toNat 4) cap5 1 = some ⟨g5, 4, none⟩ := by unfold cutAddr; rw [if_neg (by show ¬ cap5 = 4; omega)]; rfl
      refine ops_val (ex_cutLo Try.underlying34 ty5 rfl rfl (by omega)) ?_
      rw [hca]
      refine ops_val (ex_assign rfl) ?_
      refine ops_nil ?_
      refine nR128 ?_
      refine run_seq ?_
      refine run_seq ?_
      refine run_region ?_
      refine ops_val (ex_assign rfl) ?_
      refine ops_nil ?_
      refine nR128 ?_
      refine run_block ?_
      refine run_loop (fun n l w => ∃ (i g o cap nn : Nat) (pre sp : List Value) (y : Int), nbk rs[k].length - i = n ∧ Fits [some (.pointer (some ⟨m.gv, 0, none⟩)), none, none, some (.pointer (some ⟨gh, 0, none⟩)), some (.int .i64 ((D.kept.length : Int) - 2)), some (.slice (some ⟨g, o, none⟩) nn cap), some (.int .i64 (rs[k].length : Int)), some (.int .i64 y), none, none, none, none, none, none, none, none, none, none, none, none, none, none, none, none, none, none, none, none, none, none, none, none, none, none, none, none, none, none, none, none, none, none, none, none, none, none, none, none, none, none, none, none, none, none, none, none, none, none, none, none, none, none, none, none, none, none, none, none, none, none, none, none, none, none, none, none, none, none, none, none, none, none, none, none, none, none, none, none, none, none, none, none, none, none, none, none, none, none, none, none, none, none, none, none, none, none, none, none, none, none, none, none, none, none, none, none, none, none, none, none, none, none, none, none, none, none, none, none] l ∧ y = (i : Int) ∧ nn = (fbq rs[k] i).length ∧ 1 ≤ i ∧ i ≤ nbk rs[k].length ∧ pre.length = o ∧ (fbq rs[k] i).length ≤ cap ∧ cap ≤ (u8s (fbq rs[k] i) ++ sp).length ∧ Hp w2 w (bl (wRows ⟨m.gd, m.gk, gw1, cw1, sp1, m.gv, gr1, cr1, xs1, sr1, gp1, cp1, sq1⟩ D (W.tookN D rs k) ++ [(some gh, 76, [.int .u64 (W.turn : Int), .int .i64 (W.first : Int), .int .i64 ((W.first + rs.length : Nat) : Int), .int .i64 (W.fin : Int)])])) ((wRows ⟨m.gd, m.gk, gw1, cw1, sp1, m.gv, gr1, cr1, xs1, sr1, gp1, cp1, sq1⟩ D (W.tookN D rs k) ++ [(some gh, 76, [.int .u64 (W.turn : Int), .int .i64 (W.first : Int), .int .i64 ((W.first + rs.length : Nat) : Int), .int .i64 (W.fin : Int)])]) ++ [(some g, 5, pre ++ (u8s (fbq rs[k] i) ++ sp))])) (nbk rs[k].length - 1) ?_ ?_
      · exact ⟨1, g5, 4, cap5 - 4, _, _, s5, _, rfl, (fs (fn (fn (fs (fs (fs (fs (fs (fn (fn (fn (fn (fn (fn (fn (fn (fn (fn (fn (fn (fn (fn (fn (fn (fn (fn (fn (fn (fn (fn (fn (fn (fn (fn (fn (fn (fn (fn (fn (fn (fn (fn (fn (fn (fn (fn (fn (fn (fn (fn (fn (fn (fn (fn (fn (fn (fn (fn (fn (fn (fn (fn (fn (fn (fn (fn (fn (fn (fn (fn (fn (fn (fn (fn (fn (fn (fn (fn (fn (fn (fn (fn (fn (fn (fn (fn (fn (fn (fn (fn (fn (fn (fn (fn (fn (fn (fn (fn (fn (fn (fn (fn (fn (fn (fn (fn (fn (fn (fn (fn (fn (fn (fn (fn (fn (fn (fn (fn (fn (fn (fn (fn (fn (fn (fn (fn (fn (fn f0)))))))))))))))))))))))))))))))))))))))))))))))))))))))))))))))))))))))))))))))))))))))))))))))))))))))))))))))))))))))))))))))), rfl, hl1.symm, Nat.le_refl _, by omega, rfl, by omega, hu5, H5⟩
      · rintro n l w6 ⟨i, g, o, cap, nn, pre, sp, y, rfl, hfit, rfl, rfl, hi1, hin, hpo, hcl, hcs, H6⟩
        obtain ⟨j, rfl⟩ := hfit.open
        refine nR128 ?_
        clear hfit
        have hli := fbq_len hin
        refine run_seq ?_
        refine run_seq ?_
        refine run_region ?_
        refine ops_val (ex_move rfl) ?_
        refine ops_val (ex_len_slice Try.underlying34 rfl) ?_
        refine ops_val (ex_move rfl) ?_
        refine ops_test (ex_lss rfl rfl) (fun hp99 => ?_) (fun hp99 => ?_)
        · have hil : i < nbk rs[k].length := by unfold nbk; omega
          refine ops_nil ?_
          refine nR128 ?_
          refine run_cond_true rfl ?_
          refine run_skip ?_
          refine run_seq ?_
          refine run_block ?_
          refine run_region ?_
          refine ops_val (ex_move rfl) ?_
          refine ops_val (ex_move rfl) ?_
          refine ops_val (ex_move rfl) ?_
          refine ops_val (ex_nilCheck rfl) ?_
          refine nO128 ?_
          refine ops_val (ex_fieldAddr fl58_6 rfl) ?_
          refine ops_val (ex_load ty3 rfl (H6.cell (i := 3) rfl rfl)) ?_
          refine ops_val (ex_move rfl) ?_
          refine ops_val (ex_add rfl rfl ((IntWalk.i64_in _ (by have := nbk_le hlr; omega)).trans (show (((W.tookN D rs k).fin : Int) + (i : Int)) = (((W.tookN D rs k).fin + i : Nat) : Int) by omega))) ?_
          refine nO128 ?_
          refine ops_val (ex_move rfl) ?_
          refine ops_val (ex_rem rfl rfl (by omega) ((by rw [show ((D.kept.length : Int) - 2) = ((D.kept.length - 2 : Nat) : Int) by omega]; exact tmodN _ _ : (((W.tookN D rs k).fin + i : Nat) : Int).tmod ((D.kept.length : Int) - 2) = ((((W.tookN D rs k).fin + i) % (D.kept.length - 2) : Nat) : Int)))) ?_
          have hw3 : WOk w6 ⟨m.gd, m.gk, gw1, cw1, sp1, m.gv, gr1, cr1, xs1, sr1, gp1, cp1, sq1⟩ D (W.tookN D rs k) := { hw1 with lst := (hl.to H6).less (fun x hx => bl_pick (is := [0, 1, 2, 3, 4, 5]) H6 x hx) }
          refine ops_call (ex_call gf66 rfl) (block_any ⟨m.gd, m.gk, gw1, cw1, sp1, m.gv, gr1, cr1, xs1, sr1, gp1, cp1, sq1⟩ D (W.tookN D rs k) w6 (H6.pick [0, 1, 2, 3, 4, 5] (by decide)).here hw3 hdn hwt (((W.tookN D rs k).fin + i) % (D.kept.length - 2)) (Nat.mod_lt _ (by omega))) ?_
          rintro r w7 ⟨g5, cap5, s5, hr5, hc5, hs5, Hc⟩
          rw [hr5]
          have H7 := (H6.callr [0, 1, 2, 3, 4, 5] rfl Hc).pick [8, 9, 10, 11, 12, 13, 6, 7, 14] (by decide)
          have hbi := hlaid k hkl i hil
          rw [hbi] at H7
          have hMl : (chk (frm rs[k]) i).length = 64 := chk_len (by have := frm_len rs[k]; omega)
          have hrM := H7.rd (i := 8) (o := some g5) (xs := u8s (chk (frm rs[k]) i)) (sp := s5) rfl (u8s_length1 _) (by decide)
          rw [← hMl]
          refine ops_appO Try.underlying34 ty5 H7 7 (L := fbq rs[k] i) (M := chk (frm rs[k]) i) rfl rfl hpo hcs hcl rfl hrM (by have := nbk_le hlr; omega) ?_
          intro w8 g7 o7 pre7 cap7 sp7 H8 ho7 hl7 hc7
          rw [fbq_succ _ hi1 hil] at H8 hl7 hc7 ⊢
          refine nO128 ?_
          refine ops_val (ex_assign rfl) ?_
          refine ops_nil ?_
          refine nR128 ?_
          refine run_nil (blk_normal ?_)
          refine run_region ?_
          refine ops_val (ex_move rfl) ?_
          refine ops_val (ex_add rfl rfl (IntWalk.i64_in _ (by omega))) ?_
          refine ops_val (ex_assign rfl) ?_
          refine ops_nil ?_
          refine nR128 ?_
          refine run_nil (rnd_normal ?_)
          exact ⟨nbk rs[k].length - (i + 1), by omega, i + 1, g7, o7, cap7, _, pre7, sp7, _, rfl, (fs (fn (fn (fs (fs (fs (fs (fs (fn (fn (fn (fn (fn (fn (fn (fn (fn (fn (fn (fn (fn (fn (fn (fn (fn (fn (fn (fn (fn (fn (fn (fn (fn (fn (fn (fn (fn (fn (fn (fn (fn (fn (fn (fn (fn (fn (fn (fn (fn (fn (fn (fn (fn (fn (fn (fn (fn (fn (fn (fn (fn (fn (fn (fn (fn (fn (fn (fn (fn (fn (fn (fn (fn (fn (fn (fn (fn (fn (fn (fn (fn (fn (fn (fn (fn (fn (fn (fn (fn (fn (fn (fn (fn (fn (fn (fn (fn (fn (fn (fn (fn (fn (fn (fn (fn (fn (fn (fn (fn (fn (fn (fn (fn (fn (fn (fn (fn (fn (fn (fn (fn (fn (fn (fn (fn (fn (fn (fn f0)))))))))))))))))))))))))))))))))))))))))))))))))))))))))))))))))))))))))))))))))))))))))))))))))))))))))))))))))))))))))))))))), by omega, rfl, by omega, by omega, ho7, hl7, hc7, H8.pick [0, 1, 2, 3, 4, 5, 6, 7] (by decide)⟩
        · obtain ⟨t, ht⟩ := fbq_take (b := rs[k]) (i := i) (by omega) hi1
          refine ops_nil ?_
          refine nR128 ?_
          refine run_cond_false rfl ?_
          refine run_exit ?_
          refine rnd_exit ?_
          refine blk_exit ?_
          refine run_region ?_
          refine ops_val (ex_move rfl) ?_
          refine ops_val (ex_move rfl) ?_
          refine ops_val (ex_move rfl) ?_
          refine ops_val (ex_cutHi Try.underlying34 ty5 rfl rfl (by omega)) ?_
          refine nO128 ?_
          have hap : u8s (fbq rs[k] i) ++ sp = u8s rs[k] ++ (u8s t ++ sp) := by rw [ht, u8s_append, List.append_assoc]
          rw [hap] at H6
          have hrd := H6.rdO (i := 7) (g := g) (o := o) (pre := pre) (xs := u8s rs[k]) (sp := u8s t ++ sp) rfl hpo (u8s_length1 _)
          refine ops_call_own (ex_call gf40 rfl) (clone_any _ rs[k] cap _ hrd (by omega)) ?_
          intro w7 g11 c11 s11 hm11 hc11 hg11 Hc11
          have hfr : ∀ p, hd g11 = some p → w2.heap.size ≤ p.block := by
            intro p hp
            cases g11 with
            | none => simp [hd] at hp
            | some gx =>
              simp only [hd, Option.map_some, Option.some.injEq] at hp
              subst hp
              have h1 := Hc11.place (i := 0) rfl
              have h2 := H6.size
              rcases h1 with h1 | h1
              · cases h1
              · show _ ≤ gx
                omega
          have H7 := H6.call0 Hc11
          have hw4 : WOk w7 ⟨m.gd, m.gk, gw1, cw1, sp1, m.gv, gr1, cr1, xs1, sr1, gp1, cp1, sq1⟩ D (W.tookN D rs k) := { hw1 with lst := (hl.to H7).less (fun x hx => bl_pick (is := [0, 1, 2, 3, 4, 5]) H7 x hx) }
          have hut := used_drop rs k
          refine ops_call (ex_call gf39 rfl) (took_any ⟨m.gd, m.gk, gw1, cw1, sp1, m.gv, gr1, cr1, xs1, sr1, gp1, cp1, sq1⟩ D (W.tookN D rs k) w7 (H7.pick [0, 1, 2, 3, 4, 5] (by decide)).here hw4 (hd g11) rs[k] c11 (H7.rd (i := 8) (xs := u8s rs[k]) (sp := s11) rfl (u8s_length1 _) (by decide)) (fun _ p hp hx => by
            cases g11 with
            | none => simp [hd] at hp
            | some gx => simp only [hd, Option.map_some, Option.some.injEq] at hp; subst hp; exact row_not H7 (i := 8) rfl (is := [0, 1, 2, 3, 4, 5]) (by decide) hx) hlr (by rw [hlk]; omega) (by rw [hrk]; omega)) ?_
          rintro r w8 ⟨m3, e1, e2, e3, e4, hok3, H3⟩
          have e5 : (W.tookN D rs k).took D rs[k] = W.tookN D rs (k + 1) := by
            show _ = (W.tookN D rs k).took D (rs.getD k [])
            rw [List.getD_eq_getElem?_getD, List.getElem?_eq_getElem hkl]; rfl
          rw [e5] at hok3 H3
          have H8 := H7.callr [0, 1, 2, 3, 4, 5] rfl H3
          have hx3 : XsOk w2 xs1 m3.xs := by rw [e4]; exact XsOk.snoc hfr
          have hgl := HR.lt (i := 6) rfl
          have hl3 : Lsw w8 (wRows m3 D (W.tookN D rs (k + 1)) ++ [(some gh, 76, [.int .u64 (W.turn : Int), .int .i64 (W.first : Int), .int .i64 ((W.first + rs.length : Nat) : Int), .int .i64 (W.fin : Int)])]) m3.xs (W.tookN D rs (k + 1)).recs := Lsw.frame hl hx3 hok3.lst (fun x hx => by
            have hx2 : x = gh := by simpa [bl] using hx
            subst hx2
            exact ⟨by simp [bl], hgl⟩)
          have hz3 := (HR.callr [0, 1, 2, 3, 4, 5, 6] rfl H8).pick [16, 17, 18, 19, 20, 21, 13] (by decide)
          refine ops_nil ?_
          refine nR128 ?_
          refine run_nil (blk_normal ?_)
          refine run_nil (rnd_normal ?_)
          exact ⟨rs.length - (k + 1), by omega, k + 1, m3, rfl, (fs (fn (fn (fs (fs (fn (fn (fn (fn (fn (fn (fn (fn (fn (fn (fn (fn (fn (fn (fn (fn (fn (fn (fn (fn (fn (fn (fn (fn (fn (fn (fn (fn (fn (fn (fn (fn (fn (fn (fn (fn (fn (fn (fn (fn (fn (fn (fn (fn (fn (fn (fn (fn (fn (fn (fn (fn (fn (fn (fn (fn (fn (fn (fn (fn (fn (fn (fn (fn (fn (fn (fn (fn (fn (fn (fn (fn (fn (fn (fn (fn (fn (fn (fn (fn (fn (fn (fn (fn (fn (fn (fn (fn (fn (fn (fn (fn (fn (fn (fn (fn (fn (fn (fn (fn (fn (fn (fn (fn (fn (fn (fn (fn (fn (fn (fn (fn (fn (fn (fn (fn (fn (fn (fn (fn (fn (fn (fn f0)))))))))))))))))))))))))))))))))))))))))))))))))))))))))))))))))))))))))))))))))))))))))))))))))))))))))))))))))))))))))))))))), by omega, e1, e2, e3, hxs.trans hx3 HR.size, hok3, hl3, hz3⟩
    · have hkl : k = rs.length := by omega
      subst hkl
      refine mix_p rfl ?_
      refine mix1_val (fun wz hz => ex_move rfl) ?_
      refine mix_p rfl ?_
      refine mix1_no rfl ?_
      refine nM128 ?_
      refine mix_p rfl ?_
      refine mix1_no rfl ?_
      refine mix_p rfl ?_
      refine mix1_no rfl ?_
      refine nM128 ?_
      refine mix_p rfl ?_
      refine mix1_no rfl ?_
      refine mix_p rfl ?_
      refine mix1_no rfl ?_
      refine nM128 ?_
      refine mix_p rfl ?_
      refine mix1_no rfl ?_
      refine mix_p rfl ?_
      refine mix1_no rfl ?_
      refine nM128 ?_
      refine mix_p rfl ?_
      refine mix1_val (fun wz hz => ex_pick_f rfl rfl) ?_
      refine mix_nil ?_
      refine nR128 ?_
      refine run_cond_false rfl ?_
      refine run_exit ?_
      refine rnd_exit ?_
      refine blk_exit ?_
      refine run_region ?_
      refine ops_val (ex_move rfl) ?_
      refine ops_val (ex_move rfl) ?_
      refine ops_val (ex_nilCheck rfl) ?_
      refine ops_val (ex_fieldAddr fl58_4 rfl) ?_
      refine nO128 ?_
      refine ops_val (ex_load ty29 rfl (H3.cell (i := 3) rfl rfl)) ?_
      refine ops_val (ex_len_slice Try.underlying29 rfl) ?_
      refine ops_val (ex_nilCheck rfl) ?_
      refine ops_val (ex_fieldAddr fl58_8 rfl) ?_
      refine nO128 ?_
      refine ops_store1 ty3 H3 3 rfl rfl rfl rfl (by simp) rfl ?_
      intro w4 H4
      refine ops_nil ?_
      refine nR128 ?_
      refine run_nil ?_
      refine fin_end0 rfl ?_
      have hz := (HR.callr [0, 1, 2, 3, 4, 5, 6] rfl H4).pick [7, 8, 9, 10, 11, 12] (by decide)
      refine ⟨⟨m.gd, m.gk, gw1, cw1, sp1, m.gv, gr1, cr1, xs1, sr1, gp1, cp1, sq1⟩, rfl, rfl, rfl, hxs, ?_, hz⟩
      exact { hw1 with lst := (hl.to H4).less (fun x hx => bl_pick (is := [0, 1, 2, 3, 4, 5]) H4 x hx), told := by show (W.tookN D rs rs.length).recs.length ≤ _; omega }
end Go.Proofs.Ytgkciibfpenjpaa
