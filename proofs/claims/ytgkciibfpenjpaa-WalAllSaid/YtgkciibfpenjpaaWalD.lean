/- Walks of layer 2, printed by wip/gen/codec.py. -/
import Derived.Test.YtgkciibfpenjpaaNrm
import Derived.Test.YtgkciibfpenjpaaWalC
namespace Go.Proofs.Ytgkciibfpenjpaa
open Go Go.RowKit
set_option linter.unusedVariables false
attribute [local irreducible] Still Ops Does Cd
def le4 (n : Nat) : Blk := [UInt8.ofNat (n % 256), UInt8.ofNat (n / 256 % 256), UInt8.ofNat (n / 65536 % 256), UInt8.ofNat (n / 16777216 % 256)]
theorem le4_cells (n : Nat) : [Value.int .u8 ((n % 256 : Nat) : Int), .int .u8 ((n / 256 % 256 : Nat) : Int), .int .u8 ((n / 65536 % 256 : Nat) : Int), .int .u8 ((n / 16777216 % 256 : Nat) : Int)] = u8s (le4 n) := by
  have h : ∀ k : Nat, (UInt8.ofNat (k % 256)).toNat = k % 256 := fun k => u8n (Nat.mod_lt _ (by decide))
  simp only [le4, u8s, List.map_cons, List.map_nil, h]
def outq (b : Blk) (q : Nat) : Blk := le4 b.length ++ b ++ List.replicate q 0
theorem outq_zero (b : Blk) : le4 b.length ++ b = outq b 0 := by simp [outq]
theorem outq_succ (b : Blk) (q : Nat) : outq b q ++ [0] = outq b (q + 1) := by simp [outq, List.replicate_succ']
theorem outq_len (b : Blk) (q : Nat) : (outq b q).length = 4 + b.length + q := by simp [outq, le4]; omega
def padn (n : Nat) : Nat := (64 - (n + 4) % 64) % 64
def frm (b : Blk) : Blk := outq b (padn b.length)
theorem frm_len (b : Blk) : (frm b).length = 64 * nbk b.length := by unfold frm; rw [outq_len]; unfold padn nbk; omega
def chk (b : Blk) (k : Nat) : Blk := (b.drop (64 * k)).take 64
theorem chk_len {b : Blk} {k : Nat} (h : 64 * (k + 1) ≤ b.length) : (chk b k).length = 64 := by simp [chk]; omega
def putsN (R fin : Nat) (b : Blk) (D : Dk) : Nat → Dk
  | 0 => D
  | k + 1 => ((putsN R fin b D k).write ((2 + (fin + k) % R : Nat) : Int) (chk b k)).1
def okN (R fin : Nat) (b : Blk) (D : Dk) (k : Nat) : Prop := ∀ j, j < k → ((putsN R fin b D j).write ((2 + (fin + j) % R : Nat) : Int) (chk b j)).2 = 0
theorem okN_succ {R fin : Nat} {b : Blk} {D : Dk} {k : Nat} (h : okN R fin b D k) (h2 : ((putsN R fin b D k).write ((2 + (fin + k) % R : Nat) : Int) (chk b k)).2 = 0) : okN R fin b D (k + 1) := by
  intro j hj
  by_cases hjk : j = k
  · subst hjk; exact h2
  · exact h j (by omega)
theorem putsN_bd (R fin : Nat) (b : Blk) (D : Dk) : ∀ k, (putsN R fin b D k).wait.length ≤ D.wait.length + k ∧ (putsN R fin b D k).kept.length = D.kept.length
  | 0 => ⟨Nat.le_refl _, rfl⟩
  | k + 1 => by
    have h := putsN_bd R fin b D k
    have h2 := write_bd (putsN R fin b D k) ((2 + (fin + k) % R : Nat) : Int) (chk b k)
    exact ⟨by show (Dk.write _ _ _).1.wait.length ≤ _; omega, by show (Dk.write _ _ _).1.kept.length = _; rw [h2.2, h.2]⟩
theorem wmod1 {a n k : Nat} (hn : 2 < n) (ha : a < 2 ^ 40) (hk : k < 2 ^ 40) : (((a + k) % (n - 2) : Nat) : Int) + 1 = (((a + k) % (n - 2) + 1 : Nat) : Int) ∧ ((((a + k) % (n - 2) + 1 : Nat) : Int)).tmod ((n : Int) - 2) = (((a + (k + 1)) % (n - 2) : Nat) : Int) := by
  refine ⟨by omega, ?_⟩
  rw [show ((n : Int) - 2) = ((n - 2 : Nat) : Int) by omega, tmodN, ← Nat.add_assoc, Nat.mod_add_mod]
theorem took_eq {W : Wl} {D D' : Dk} (h : D.kept.length = D'.kept.length) (b : Blk) : W.took D b = W.took D' b := by unfold Wl.took; rw [h]
namespace Rn
attribute [local irreducible] Cd
set_option maxRecDepth 100000 in
set_option maxHeartbeats 4000000 in
theorem appendF_any (m : Mw) (D : Dk) (W : Wl) (w0 : World) (H0 : Hp w0 w0 (bl (wRows m D W)) (wRows m D W)) (h : WOk w0 m D W) (gbx gwx : Nat) (A : Option Addr) (b : Blk) (c : Nat) (hbx : w0.cell? ⟨gbx, 0, none⟩ = some (.slice A b.length c)) (hbn : gbx ∉ bl (wRows m D W)) (hwx : w0.cell? ⟨gwx, 0, none⟩ = some (.pointer (some ⟨m.gv, 0, none⟩))) (hwn : gwx ∉ bl (wRows m D W)) (hr : Rd w0 A b.length 1 (u8s b)) (ha : 0 < b.length → ∀ p, A = some p → p.block ∉ bl (wRows m D W)) (hb : b.length ≤ 16384) (hn : W.recs.length < 16384) (hu0 : used W.recs ≤ 2 ^ 39) (hwt : D.wait.length ≤ 1000000000) :
    DoesP Try.prog 34 #[.pointer (some ⟨gbx, 0, none⟩), .pointer (some ⟨gwx, 0, none⟩)] w0 (fun _ w' => okN (D.kept.length - 2) W.fin (frm b) D (nbk b.length) ∧ WPost w0 w' (bl (wRows m D W)) m (putsN (D.kept.length - 2) W.fin (frm b) D (nbk b.length)) (W.took D b))
      (fun ch w' => ch = fallC ∧ ∃ k, k < nbk b.length ∧ okN (D.kept.length - 2) W.fin (frm b) D k ∧ ((putsN (D.kept.length - 2) W.fin (frm b) D k).write ((2 + (W.fin + k) % (D.kept.length - 2) : Nat) : Int) (chk (frm b) k)).2 ≠ 0 ∧ WPost w0 w' (bl (wRows m D W)) m (putsN (D.kept.length - 2) W.fin (frm b) D (k + 1)) (W)) := by
  refine does_of Try.func34 Try.ntmps34 rfl ?_
  change Run _ _ _ _ [.pointer (some ⟨gbx, 0, none⟩), .pointer (some ⟨gwx, 0, none⟩), undef, undef, undef, undef, undef, undef, undef, undef, undef, undef, undef, undef, undef, undef, undef, undef, undef, undef, undef, undef, undef, undef, undef, undef, undef, undef, undef, undef, undef, undef, undef, undef, undef, undef, undef, undef, undef, undef, undef, undef, undef, undef, undef, undef, undef, undef, undef, undef, undef, undef, undef, undef] _
  have H := H0
  obtain ⟨hD, hlst, hrc, hrs, hrn, hpl, hpc, hps, hpn, hmost, hlong, hsize, hfin, hplb, hfirst, hturn, hused, htold⟩ := id h
  have hkept := hD.most
  refine run_seq ?_
  refine run_region rfl (fun _ _ h => h) ?_
  refine ops_val (ex_load ty34 rfl (cell_toW hbx H hbn)) ?_
  refine ops_val (ex_len_slice Try.underlying34 rfl) ?_
  refine ops_val (ex_assign rfl) ?_
  refine ops_nil ?_
  change Run _ _ _ _ [_, _, _, _, _, _, _, _, _, _, _, _, _, _, _, _, _, _, _, _, _, _, _, _, _, _, _, _, _, _, _, _, _, _, _, _, _, _, _, _, _, _, _, _, _, _, _, _, _, _, _, _, _, _] _
  refine run_seq ?_
  refine run_region rfl (fun _ _ h => h) ?_
  refine ops_val (ex_move rfl) ?_
  refine ops_val (ex_conv Try.underlying5 Try.underlying3 rfl (u8w b.length)) ?_
  refine ops_val (ex_move rfl) ?_
  refine ops_val (ex_shr rfl rfl (by omega) ((show _ = ((b.length / 256 : Nat) : Int) from shr_nat b.length 8 64))) ?_
  refine nO54 ?_
  refine ops_val (ex_conv Try.underlying5 Try.underlying3 rfl (u8w (b.length / 256))) ?_
  refine ops_val (ex_move rfl) ?_
  refine ops_val (ex_shr rfl rfl (by omega) ((show _ = ((b.length / 65536 : Nat) : Int) from shr_nat b.length 16 64))) ?_
  refine ops_val (ex_conv Try.underlying5 Try.underlying3 rfl (u8w (b.length / 65536))) ?_
  refine nO54 ?_
  refine ops_val (ex_move rfl) ?_
  refine ops_val (ex_shr rfl rfl (by omega) ((show _ = ((b.length / 16777216 : Nat) : Int) from shr_nat b.length 24 64))) ?_
  refine ops_val (ex_conv Try.underlying5 Try.underlying3 rfl (u8w (b.length / 16777216))) ?_
  refine ops_buildSlice Try.underlying34 ty5 H rfl (by decide) rfl ?_
  intro w1 g1 H1 hg1
  refine nO54 ?_
  refine ops_val (ex_load ty34 rfl (cell_toW hbx H1 hbn)) ?_
  refine ops_app8 Try.underlying34 ty5 H1 6 (g := some g1) (cap := 4) (L := le4 b.length) (sp := []) rfl (by rw [List.append_nil, ← le4_cells]; rfl) (by rw [List.append_nil, u8s_length]; exact Nat.le_refl _) (Nat.le_refl _) (by simp) rfl (Rd.fcw hr H1 ha) (by simp [le4]; omega) ?_
  intro w2 g3 cap3 sp3 H2 hl3 hc3 hg3
  rw [outq_zero b] at H2 hl3 hc3 ⊢
  refine ops_val (ex_assign rfl) ?_
  refine ops_nil ?_
  change Run _ _ _ _ [_, _, _, _, _, _, _, _, _, _, _, _, _, _, _, _, _, _, _, _, _, _, _, _, _, _, _, _, _, _, _, _, _, _, _, _, _, _, _, _, _, _, _, _, _, _, _, _, _, _, _, _, _, _] _
  refine run_seq ?_
  refine run_block ?_
  refine run_loop (fun n l w => ∃ (q cap : Nat) (g : Option Nat) (spo : List Value), padn b.length - q = n ∧ Fits [some (.pointer (some ⟨gbx, 0, none⟩)), some (.pointer (some ⟨gwx, 0, none⟩)), some (.int .i64 (b.length : Int)), some (.slice (hd g) (outq b q).length cap), none, none, none, none, none, none, none, none, none, none, none, none, none, none, none, none, none, none, none, none, none, none, none, none, none, none, none, none, none, none, none, none, none, none, none, none, none, none, none, none, none, none, none, none, none, none, none, none, none, none] l ∧ q ≤ padn b.length ∧ (outq b q).length ≤ cap ∧ cap * 1 ≤ (u8s (outq b q) ++ spo).length ∧ (g = none → cap = 0) ∧ Hp w0 w (bl (wRows m D W)) (wRows m D W ++ [(g, 5, u8s (outq b q) ++ spo)])) (padn b.length) ?_ ?_
  · exact ⟨0, cap3, g3, sp3, rfl, (fs (fs (fs (fs (fn (fn (fn (fn (fn (fn (fn (fn (fn (fn (fn (fn (fn (fn (fn (fn (fn (fn (fn (fn (fn (fn (fn (fn (fn (fn (fn (fn (fn (fn (fn (fn (fn (fn (fn (fn (fn (fn (fn (fn (fn (fn (fn (fn (fn (fn (fn (fn (fn (fn f0)))))))))))))))))))))))))))))))))))))))))))))))))))))), Nat.zero_le _, hl3, hc3, hg3, by have hz := H2.pick [0, 1, 2, 3, 4, 5, 6] (by decide); exact hz⟩
  · rintro n l w3 ⟨q, cap, g, spo, rfl, hfit, hq, hcl, hcs, hcn, H3⟩
    obtain ⟨j, rfl⟩ := hfit.open
    change Run _ _ _ _ [_, _, _, _, _, _, _, _, _, _, _, _, _, _, _, _, _, _, _, _, _, _, _, _, _, _, _, _, _, _, _, _, _, _, _, _, _, _, _, _, _, _, _, _, _, _, _, _, _, _, _, _, _, _] _
    clear hfit
    have hol := outq_len b q
    have hpn : padn b.length < 64 := Nat.mod_lt _ (by decide)
    refine run_seq ?_
    refine run_seq ?_
    refine run_region rfl (fun _ _ h => h) ?_
    refine ops_val (ex_move rfl) ?_
    refine ops_val (ex_len_slice Try.underlying34 rfl) ?_
    refine ops_val (ex_rem rfl rfl (by omega) (tmodN (outq b q).length 64)) ?_
    refine ops_test (ex_neq rfl rfl) (fun hp25 => ?_) (fun hp25 => ?_)
    · have hqp : q < padn b.length := by unfold padn at hq ⊢; omega
      refine ops_nil ?_
      change Run _ _ _ _ [_, _, _, _, _, _, _, _, _, _, _, _, _, _, _, _, _, _, _, _, _, _, _, _, _, _, _, _, _, _, _, _, _, _, _, _, _, _, _, _, _, _, _, _, _, _, _, _, _, _, _, _, _, _] _
      refine run_cond_true rfl ?_
      refine run_skip ?_
      refine run_block ?_
      refine run_region rfl (fun _ _ h => h) ?_
      refine ops_val (ex_move rfl) ?_
      refine ops_buildSlice Try.underlying34 ty5 H3 rfl (by decide) rfl ?_
      intro w4 g4 H4 hg4
      refine ops_app8 Try.underlying34 ty5 H4 6 (g := g) (cap := cap) (L := outq b q) (M := [0]) (sp := spo) rfl rfl hcs hcl hcn rfl (H4.rd (i := 7) (o := some _) (xs := u8s [0]) (sp := []) rfl rfl (by decide)) (by simp; omega) ?_
      intro w5 g4 cap4 sp4 H5 hl4 hc4 hg4
      rw [outq_succ b q] at H5 hl4 hc4 ⊢
      refine ops_val (ex_assign rfl) ?_
      refine ops_nil ?_
      change Run _ _ _ _ [_, _, _, _, _, _, _, _, _, _, _, _, _, _, _, _, _, _, _, _, _, _, _, _, _, _, _, _, _, _, _, _, _, _, _, _, _, _, _, _, _, _, _, _, _, _, _, _, _, _, _, _, _, _] _
      refine run_nil (blk_normal ?_)
      refine run_nil (rnd_normal ?_)
      refine ⟨rfl, ?_⟩
      exact ⟨padn b.length - (q + 1), by omega, q + 1, cap4, g4, sp4, rfl, (fs (fs (fs (fs (fn (fn (fn (fn (fn (fn (fn (fn (fn (fn (fn (fn (fn (fn (fn (fn (fn (fn (fn (fn (fn (fn (fn (fn (fn (fn (fn (fn (fn (fn (fn (fn (fn (fn (fn (fn (fn (fn (fn (fn (fn (fn (fn (fn (fn (fn (fn (fn (fn (fn f0)))))))))))))))))))))))))))))))))))))))))))))))))))))), by omega, hl4, hc4, hg4, by have hz := H5.pick [0, 1, 2, 3, 4, 5, 6] (by decide); exact hz⟩
    · have hqp : q = padn b.length := by unfold padn at hq ⊢; omega
      subst hqp
      obtain ⟨go, rfl⟩ : ∃ go, g = some go := by
        cases g with
        | none => have := hcn rfl; omega
        | some go => exact ⟨go, rfl⟩
      refine ops_nil ?_
      change Run _ _ _ _ [_, _, _, _, _, _, _, _, _, _, _, _, _, _, _, _, _, _, _, _, _, _, _, _, _, _, _, _, _, _, _, _, _, _, _, _, _, _, _, _, _, _, _, _, _, _, _, _, _, _, _, _, _, _] _
      refine run_cond_false rfl ?_
      refine run_exit ?_
      refine rnd_exit ?_
      refine blk_exit ?_
      refine run_seq ?_
      refine run_region rfl (fun _ _ h => h) ?_
      refine ops_val (ex_load ty28 rfl (cell_toW hwx H3 hwn)) ?_
      refine ops_val (ex_nilCheck rfl) ?_
      refine ops_val (ex_fieldAddr fl58_6 rfl) ?_
      refine ops_val (ex_load ty3 rfl (H3.cell (i := 3) rfl rfl)) ?_
      refine nO54 ?_
      refine ops_alloc ty3 H3 ?_
      intro w4 gat H4 hgat
      refine ops_store1 ty3 H4 7 rfl rfl rfl rfl (by first | decide | simp) rfl ?_
      intro w5 H5
      refine ops_nil ?_
      change Run _ _ _ _ [_, _, _, _, _, _, _, _, _, _, _, _, _, _, _, _, _, _, _, _, _, _, _, _, _, _, _, _, _, _, _, _, _, _, _, _, _, _, _, _, _, _, _, _, _, _, _, _, _, _, _, _, _, _] _
      refine run_seq ?_
      refine run_seq ?_
      refine run_region rfl (fun _ _ h => h) ?_
      refine ops_val (ex_move rfl) ?_
      refine ops_call (ex_call gf35 rfl) (chunk_any (hd (some go)) (outq b (padn b.length)).length cap _) ?_
      rintro r w6 ⟨g1, g2, hr1, Hc⟩
      rw [hr1]
      have H6 := H5.call0 Hc
      refine ops_nil ?_
      change Run _ _ _ _ [_, _, _, _, _, _, _, _, _, _, _, _, _, _, _, _, _, _, _, _, _, _, _, _, _, _, _, _, _, _, _, _, _, _, _, _, _, _, _, _, _, _, _, _, _, _, _, _, _, _, _, _, _, _] _
      refine run_block ?_
      have hfl := frm_len b
      have hnb := nbk_le hb
      have hR : 0 < (D.kept.length - 2) := by omega
      have e0 : (W.fin + 0) % (D.kept.length - 2) = W.fin := by rw [Nat.add_zero]; exact Nat.mod_eq_of_lt hfin
      have hg1 := H6.at (i := 8) rfl
      have hg2 := H6.at (i := 9) rfl
      have hne : g1 ≠ g2 := H6.ne (i := 8) (j := 9) rfl rfl (by decide)
      have hcap64 : 64 * nbk b.length ≤ cap := by rw [← hfl]; exact hcl
      have hbxl := World.block_lt_of_cell? w0 _ hbx
      have hwxl := World.block_lt_of_cell? w0 _ hwx
      have hwsz := H6.size
      have hq0 : Hp w0 w6 (bl (wRows m D W)) (dRows m.gd m.gk m.gw m.cw m.sp (putsN (D.kept.length - 2) W.fin (frm b) D 0) ++ lRows m W ++ [(some go, 5, u8s (frm b) ++ spo), (some gat, 3, [.int .i64 (((W.fin + 0) % (D.kept.length - 2) : Nat) : Int)])]) := by
        have hz := H6.pick [0, 1, 2, 3, 4, 5, 6, 7] (by decide)
        rw [← e0] at hz
        exact hz
      rw [show Value.slice (hd (some go)) (outq b (padn b.length)).length cap = Value.slice (some ⟨go, 0, none⟩) (64 * nbk b.length) cap by rw [show outq b (padn b.length) = frm b from rfl, hfl]; rfl] at hg1
      refine run_range (ps := [35]) (gf := 61) (lb := [.pointer (some ⟨g1, 0, none⟩), .pointer (some ⟨g2, 0, none⟩)]) (N := nbk b.length) (B := [g1, g2]) Try.func34 rfl gf61
        (fun w1 Hw1 => chunk_iter g1 g2 go (nbk b.length) cap (by omega) hcap64 w1 ((Hw1.frame g1 (Array.getElem?_eq_some_iff.1 hg1).1 (by simp)).trans hg1) ((Hw1.frame g2 (Array.getElem?_eq_some_iff.1 hg2).1 (by simp)).trans hg2) hne)
        (fun x hx => by
          rcases List.mem_cons.1 hx with rfl | hx
          · exact (Array.getElem?_eq_some_iff.1 hg1).1
          · rw [List.mem_singleton.1 hx]; exact (Array.getElem?_eq_some_iff.1 hg2).1)
        (fun k W1 O => okN (D.kept.length - 2) W.fin (frm b) D k ∧ ∃ (gw : Option Nat) (cw : Nat) (sp : List Value), O = bl (dRows m.gd m.gk gw cw sp (putsN (D.kept.length - 2) W.fin (frm b) D k) ++ [(some gat, 3, [.int .i64 (((W.fin + k) % (D.kept.length - 2) : Nat) : Int)])]) ∧ DOk (putsN (D.kept.length - 2) W.fin (frm b) D k) gw cw sp ∧ Hp w0 W1 (bl (wRows m D W)) (dRows m.gd m.gk gw cw sp (putsN (D.kept.length - 2) W.fin (frm b) D k) ++ lRows m W ++ [(some go, 5, u8s (frm b) ++ spo), (some gat, 3, [.int .i64 (((W.fin + k) % (D.kept.length - 2) : Nat) : Int)])]))
        (fun _ _ => False)
        (fun ch W1 => ch = fallC ∧ ∃ k, k < nbk b.length ∧ okN (D.kept.length - 2) W.fin (frm b) D k ∧ ((putsN (D.kept.length - 2) W.fin (frm b) D k).write ((2 + (W.fin + k) % (D.kept.length - 2) : Nat) : Int) (chk (frm b) k)).2 ≠ 0 ∧ ∃ (gw : Option Nat) (cw : Nat) (sp : List Value), DOk (putsN (D.kept.length - 2) W.fin (frm b) D (k + 1)) gw cw sp ∧ Hp w0 W1 (bl (wRows m D W)) (dRows m.gd m.gk gw cw sp (putsN (D.kept.length - 2) W.fin (frm b) D (k + 1)) ++ lRows m W))
        (bl (dRows m.gd m.gk m.gw m.cw m.sp (putsN (D.kept.length - 2) W.fin (frm b) D 0) ++ [(some gat, 3, [.int .i64 (((W.fin + 0) % (D.kept.length - 2) : Nat) : Int)])]))
        (fun x hx hx2 => by
          rcases List.mem_cons.1 hx2 with rfl | hx2
          · exact row_not H6 (i := 8) rfl (is := [0, 1, 2, 7]) (by decide) (by simpa [bl] using hx)
          · rw [List.mem_singleton.1 hx2] at hx; exact row_not H6 (i := 9) rfl (is := [0, 1, 2, 7]) (by decide) (by simpa [bl] using hx))
        (fun l args => (l.set 35 (args.getD 0 undef)).set 5 (args.getD 0 undef))
        (fun k W1 O hJ => by obtain ⟨_, gw, cw, sp, rfl, _, HJ⟩ := hJ; exact bl_cells (HJ.pick [0, 1, 2, 7] (by decide)))
        (fun k W1 O W2 L hJ hL HL hnl => by obtain ⟨h1, gw, cw, sp, h2, h3, HJ⟩ := hJ; exact ⟨h1, gw, cw, sp, h2, h3, HJ.loop HL hnl (by omega)⟩)
        (fun _ _ _ _ hx => hx.elim)
        (fun k W1 args G hI => by obtain ⟨rfl, rfl⟩ := hI; exact ⟨rfl, by simp, fun _ _ _ _ _ => ⟨rfl, rfl⟩⟩)
        ⟨fun j hj => absurd hj (by omega), m.gw, m.cw, m.sp, rfl, hD, hq0⟩ ?_ ?_ ?_ (fun _ _ _ hx => hx.elim) ?_
      · rintro k W1 args G L ⟨rfl, rfl⟩
        change Run _ _ _ _ [_, _, _, _, _, _, _, _, _, _, _, _, _, _, _, _, _, _, _, _, _, _, _, _, _, _, _, _, _, _, _, _, _, _, _, _, _, _, _, _, _, _, _, _, _, _, _, _, _, _, _, _, _, _] _
        refine run_region rfl (fun _ _ h => (by cases h.1)) ?_
        refine ops_val (ex_assign rfl) ?_
        refine ops_nil ?_
        change Run _ _ _ _ [_, _, _, _, _, _, _, _, _, _, _, _, _, _, _, _, _, _, _, _, _, _, _, _, _, _, _, _, _, _, _, _, _, _, _, _, _, _, _, _, _, _, _, _, _, _, _, _, _, _, _, _, _, _] _
        refine run_nil ?_
        exact ⟨rfl, rfl, rfl, rfl⟩
      · rintro k W1 O args G L hk ⟨hok, gw, cw, sp, rfl, hDk, HJ⟩ ⟨rfl, rfl⟩ _
        have hbd := putsN_bd (D.kept.length - 2) W.fin (frm b) D k
        have hmk := hDk.most
        have HB := (HJ.pick [0, 1, 2, 7] (by decide)).here
        change Hp W1 W1 (bl (dRows m.gd m.gk gw cw sp (putsN (D.kept.length - 2) W.fin (frm b) D k) ++ [(some gat, 3, [.int .i64 (((W.fin + k) % (D.kept.length - 2) : Nat) : Int)])])) (dRows m.gd m.gk gw cw sp (putsN (D.kept.length - 2) W.fin (frm b) D k) ++ [(some gat, 3, [.int .i64 (((W.fin + k) % (D.kept.length - 2) : Nat) : Int)])]) at HB
        have hwx1 := cell_toW hwx HJ hwn
        have hwxn : gwx ∉ bl (dRows m.gd m.gk gw cw sp (putsN (D.kept.length - 2) W.fin (frm b) D k) ++ [(some gat, 3, [.int .i64 (((W.fin + k) % (D.kept.length - 2) : Nat) : Int)])]) := old_not (HJ.pick [0, 1, 2, 7] (by decide)) hwxl hwn
        have hgv0 := HJ.cell (i := 3) (o := 0) rfl rfl
        have hgvn : m.gv ∉ bl (dRows m.gd m.gk gw cw sp (putsN (D.kept.length - 2) W.fin (frm b) D k) ++ [(some gat, 3, [.int .i64 (((W.fin + k) % (D.kept.length - 2) : Nat) : Int)])]) := row_not HJ (i := 3) rfl (is := [0, 1, 2, 7]) (by decide)
        have hgon : go ∉ bl (dRows m.gd m.gk gw cw sp (putsN (D.kept.length - 2) W.fin (frm b) D k) ++ [(some gat, 3, [.int .i64 (((W.fin + k) % (D.kept.length - 2) : Nat) : Int)])]) := row_not HJ (i := 6) rfl (is := [0, 1, 2, 7]) (by decide)
        have e64 : (chk (frm b) k).length = 64 := chk_len (by rw [hfl]; omega)
        have hck : Rd W1 (some ⟨go, 64 * k, none⟩) (chk (frm b) k).length 1 (u8s (chk (frm b) k)) := by
          refine ⟨u8s_length1 _, fun a hx j u hu => ?_, by simp⟩
          simp only [Option.some.injEq] at hx
          subst hx
          rw [Addr.add_lit]
          refine HJ.cell (i := 6) rfl ?_
          have hj : j < 64 := by have := lt_of_get hu; rw [u8s_length, e64] at this; exact this
          have h2 : (u8s (frm b))[64 * k + j]? = some u := by
            rw [← hu]; simp [chk, u8s, hj]
          rw [List.getElem?_append_left (lt_of_get h2)]
          exact h2
        change Run _ _ _ _ [_, _, _, _, _, _, _, _, _, _, _, _, _, _, _, _, _, _, _, _, _, _, _, _, _, _, _, _, _, _, _, _, _, _, _, _, _, _, _, _, _, _, _, _, _, _, _, _, _, _, _, _, _, _] _
        refine run_block ?_
        refine run_seq ?_
        refine run_tail 7 mixed (by kernel_rfl) rfl (fun _ _ h => h) ?_
        rintro w7 hw7
        have H7 := Hp.drew HB; rw [← hw7] at H7
        refine still_val (ex_load ty28 rfl (cell_toW hwx1 H7 hwxn)) ?_
        refine still_val (ex_nilCheck rfl) ?_
        refine still_val (ex_fieldAddr fl58_0 rfl) ?_
        refine still_val (ex_load ty27 rfl (cell_toW hgv0 H7 hgvn)) ?_
        refine nS54 ?_
        refine still_val (ex_load ty3 rfl (H7.cell (i := 3) rfl rfl)) ?_
        refine still_val (ex_add rfl rfl ((IntWalk.i64_in _ (by have := Nat.mod_lt (W.fin + k) hR; omega)).trans (show (2 : Int) + (((W.fin + k) % (D.kept.length - 2) : Nat) : Int) = ((2 + (W.fin + k) % (D.kept.length - 2) : Nat) : Int) by omega))) ?_
        refine still_val (ex_move rfl) ?_
        refine still_nil ?_
        have hwr := write_any m.gd m.gk gw cw sp (putsN (D.kept.length - 2) W.fin (frm b) D k) w7 (H7.pick [0, 1, 2] (by decide)).here hDk ((2 + (W.fin + k) % (D.kept.length - 2) : Nat) : Int) (some ⟨go, 64 * k, none⟩) (chk (frm b) k) 64 (hck.to H7 (fun a hx => by cases hx; exact hgon)) (fun a hx hy => by cases hx; exact hgon (bl_pick (is := [0, 1, 2]) H7 _ hy)) (by omega)
        rw [e64] at hwr
        refine ops_call (ex_call gf37 rfl) hwr ?_
        rintro r w8 ⟨hr2, gw2, cw2, sp2, hD2, Hd⟩
        rw [hr2]
        have H8 := (H7.callr [0, 1, 2] rfl Hd).pick [4, 5, 6, 3] (by decide)
        refine nO54 ?_
        refine ops_callP (ex_call gf36 rfl) (must_any _ _) ?_ ?_
        · rintro ch wz ⟨hcd, rfl, rfl⟩
          refine ⟨rfl, by rw [List.append_nil]; exact H8.noRows, rfl, k, hk, hok, hcd, gw2, cw2, sp2, hD2, ?_⟩
          have hz := (HJ.callr [0, 1, 2, 7] rfl H8).pick [8, 9, 10, 3, 4, 5] (by decide)
          exact hz
        rintro r wz ⟨hcd, rfl⟩
        refine ops_nil ?_
        change Run _ _ _ _ [_, _, _, _, _, _, _, _, _, _, _, _, _, _, _, _, _, _, _, _, _, _, _, _, _, _, _, _, _, _, _, _, _, _, _, _, _, _, _, _, _, _, _, _, _, _, _, _, _, _, _, _, _, _] _
        refine run_mixZ 5 [(true, 0), (true, 1), (true, 2), (false, 3), (true, 4), (false, 5)] H8 [0, 3] mixed (by decide) (by kernel_rfl) rfl ?_
        rintro w9 hw9
        have H9 := Hp.drew H8; rw [← hw9] at H9
        refine mixz_p rfl ?_
        refine mix1_val (fun wz hz => ex_load ty3 rfl (hz.cell (i := 1) rfl rfl)) ?_
        refine mixz_p rfl ?_
        refine mix1_val (fun wz hz => ex_add rfl rfl ((IntWalk.i64_in _ (by have := Nat.mod_lt (W.fin + k) hR; omega)).trans (wmod1 (n := D.kept.length) (a := W.fin) (k := k) (by omega) (by omega) (by omega)).1)) ?_
        refine mixz_p rfl ?_
        refine mix1_val (fun wz hz => ex_load ty28 rfl (cell_toW hwx1 hz hwxn)) ?_
        refine mixz_o rfl ?_
        refine ops_call_eq (ex_call gf38 rfl) (ring_p m.gv m.gd (putsN (D.kept.length - 2) W.fin (frm b) D (k + 1)).kept.length _ _ _ (cell_toW hgv0 H9 hgvn) (H9.cell (i := 0) rfl rfl) (by rw [(putsN_bd (D.kept.length - 2) W.fin (frm b) D (k + 1)).2]; exact hkept)) ?_
        rw [(putsN_bd (D.kept.length - 2) W.fin (frm b) D (k + 1)).2]
        refine ops_nil ?_
        refine ⟨fun hne => H9.pick [0, 3] (by decide), ?_⟩
        refine nZ54 ?_
        refine mixz_p rfl ?_
        refine mix1_val (fun wz hz => ex_rem rfl rfl (by omega) ((wmod1 (n := D.kept.length) (a := W.fin) (k := k) (by omega) (by omega) (by omega)).2)) ?_
        refine mixz_o rfl ?_
        refine ops_store1 ty3 H9 3 rfl rfl rfl rfl (by first | decide | simp) rfl ?_
        intro w10 H10
        refine ops_nil ?_
        refine ⟨fun hne => absurd rfl hne, ?_⟩
        refine nZ54 ?_
        refine mixz_nil ?_
        change Run _ _ _ _ [_, _, _, _, _, _, _, _, _, _, _, _, _, _, _, _, _, _, _, _, _, _, _, _, _, _, _, _, _, _, _, _, _, _, _, _, _, _, _, _, _, _, _, _, _, _, _, _, _, _, _, _, _, _] _
        refine run_nil (blk_normal ?_)
        refine run_nil ?_
        refine ⟨rfl, by rw [List.append_nil]; exact H10.noRows, bl (dRows m.gd m.gk gw2 cw2 sp2 (putsN (D.kept.length - 2) W.fin (frm b) D (k + 1)) ++ [(some gat, 3, [.int .i64 (((W.fin + (k + 1)) % (D.kept.length - 2) : Nat) : Int)])]), fun x hx => by rw [List.append_nil]; exact bl_place H10 x hx, okN_succ hok hcd, gw2, cw2, sp2, rfl, hD2, ?_⟩
        have hz := (HJ.callr [0, 1, 2, 7] rfl H10).pick [8, 9, 10, 3, 4, 5, 6, 11] (by decide)
        exact hz
      · rintro Dm W1 O ⟨hok, gw, cw, sp, rfl, hDk, HJ⟩ hDm hDl
        have hbd := putsN_bd (D.kept.length - 2) W.fin (frm b) D (nbk b.length)
        have HB := HJ.here
        have hwx1 := cell_toW hwx HJ hwn
        have hwxn := old_not HJ hwxl hwn
        have hbx1 := cell_toW hbx HJ hbn
        have hbxn := old_not HJ hbxl hbn
        have hr1 := Rd.fcw hr HJ ha
        have ha1 : 0 < b.length → ∀ p, A = some p → p.block ∉ bl (dRows m.gd m.gk gw cw sp (putsN (D.kept.length - 2) W.fin (frm b) D (nbk b.length)) ++ lRows m W ++ [(some go, 5, u8s (frm b) ++ spo), (some gat, 3, [.int .i64 (((W.fin + (nbk b.length)) % (D.kept.length - 2) : Nat) : Int)])]) := fun h0 p hp => old_not HJ (rd_lt hr h0 hp) (ha h0 p hp)
        have hlst1 : Lsw W1 (dRows m.gd m.gk gw cw sp (putsN (D.kept.length - 2) W.fin (frm b) D (nbk b.length)) ++ lRows m W ++ [(some go, 5, u8s (frm b) ++ spo), (some gat, 3, [.int .i64 (((W.fin + (nbk b.length)) % (D.kept.length - 2) : Nat) : Int)])]) m.xs W.recs := hlst.to HJ
        refine run_nil (blk_normal ?_)
        refine run_mixZ 3 [(true, 0), (true, 1), (false, 2), (false, 3)] HB [0] mixed (by decide) (by kernel_rfl) rfl ?_
        rintro w7 hw7
        have H7 := Hp.drew HB; rw [← hw7] at H7
        refine mixz_p rfl ?_
        refine mix1_val (fun wz hz => ex_load ty28 rfl (cell_toW hwx1 hz hwxn)) ?_
        refine mixz_p rfl ?_
        refine mix1_val (fun wz hz => ex_load ty34 rfl (cell_toW hbx1 hz hbxn)) ?_
        refine mixz_o rfl ?_
        refine ops_call_own (ex_call gf40 rfl) (clone_any A b c _ (Rd.fcw hr1 H7 ha1) (by omega)) ?_
        intro w8 g11 c11 s11 hm11 hc11 hg11 Hc11
        have hfr : ∀ p, hd g11 = some p → w0.heap.size ≤ p.block := by
          intro p hp
          cases g11 with
          | none => simp [hd] at hp
          | some gx =>
            simp only [hd, Option.map_some, Option.some.injEq] at hp
            subst hp
            have h1 := Hc11.place (i := 0) rfl
            have h2 := H7.size
            have h3 := HJ.size
            rcases h1 with h1 | h1
            · cases h1
            · show w0.heap.size ≤ gx
              omega
        have H8 := H7.call0 Hc11
        refine ops_nil ?_
        refine ⟨fun hne => H8.pick [0] (by decide), ?_⟩
        refine nZ54 ?_
        refine mixz_o rfl ?_
        have hbl : ∀ x ∈ bl (wRows { m with gw := gw, cw := cw, sp := sp } (putsN (D.kept.length - 2) W.fin (frm b) D (nbk b.length)) W), x ∈ bl (dRows m.gd m.gk gw cw sp (putsN (D.kept.length - 2) W.fin (frm b) D (nbk b.length)) ++ lRows m W ++ [(some go, 5, u8s (frm b) ++ spo), (some gat, 3, [.int .i64 (((W.fin + (nbk b.length)) % (D.kept.length - 2) : Nat) : Int)])]) := fun x hx => bl_pick (is := [0, 1, 2, 3, 4, 5]) HJ x (by simpa [bl] using hx)
        have hw6 : WOk w8 { m with gw := gw, cw := cw, sp := sp } (putsN (D.kept.length - 2) W.fin (frm b) D (nbk b.length)) W := { h with d := hDk, lst := (hlst1.to H8).less (fun x hx => bl_pick (is := [0, 1, 2, 3, 4, 5]) H8 x (by simpa [bl] using hx)), size := by rw [hbd.2]; exact hsize, fin := by rw [hbd.2]; exact hfin }
        refine ops_call (ex_call gf39 rfl) (took_any { m with gw := gw, cw := cw, sp := sp } (putsN (D.kept.length - 2) W.fin (frm b) D (nbk b.length)) W w8 (H8.pick [0, 1, 2, 3, 4, 5] (by decide)).here hw6 (hd g11) b c11 (H8.rd (i := 8) (xs := u8s b) (sp := s11) rfl (u8s_length1 b) (by decide)) (fun _ p hp hx => by
          cases g11 with
          | none => simp [hd] at hp
          | some gx => simp only [hd, Option.map_some, Option.some.injEq] at hp; subst hp; exact row_not H8 (i := 8) rfl (is := [0, 1, 2, 3, 4, 5]) (by decide) hx) hb hn hu0) ?_
        rintro r w9 ⟨m3, e1, e2, e3, e4, hok3, H3⟩
        have H9 := H8.callr [0, 1, 2, 3, 4, 5] rfl H3
        refine ops_nil ?_
        refine ⟨fun hne => absurd rfl hne, ?_⟩
        refine nZ54 ?_
        refine mixz_nil ?_
        change Run _ _ _ _ [_, _, _, _, _, _, _, _, _, _, _, _, _, _, _, _, _, _, _, _, _, _, _, _, _, _, _, _, _, _, _, _, _, _, _, _, _, _, _, _, _, _, _, _, _, _, _, _, _, _, _, _, _, _] _
        refine run_nil ?_
        have hDz : w9.heap[Dm]? = some (.deferred (some [])) := (H9.frame Dm (Array.getElem?_eq_some_iff.1 hDm).1 (fun hx => by obtain ⟨arr, T, z, hh⟩ := bl_cells HJ Dm hx; rw [hDm] at hh; cases hh)).trans hDm
        have H8 : Hp w0 w9 (bl (wRows m D W)) (wRows m3 (putsN (D.kept.length - 2) W.fin (frm b) D (nbk b.length)) (W.took D b)) := by
          rw [took_eq (W := W) (D := D) (D' := putsN (D.kept.length - 2) W.fin (frm b) D (nbk b.length)) hbd.2.symm b]
          have hz := (HJ.callr [0, 1, 2, 3, 4, 5, 6, 7] rfl H9).pick [17, 18, 19, 20, 21, 22] (by decide)
          exact hz
        have H9 := H8.loop (Hp.putO (.deferred none) hDz) (notc hDz) (by omega)
        refine ⟨Dm, _, rfl, run_takeDeferred hDz, _, results0 rfl _ _, hok, m3, e1, e2, e3, by rw [e4]; exact XsOk.snoc hfr, ?_, H9⟩
        rw [took_eq (W := W) (D := D) (D' := putsN (D.kept.length - 2) W.fin (frm b) D (nbk b.length)) hbd.2.symm b] at H9 ⊢
        exact { hok3 with lst := hok3.lst.loop (Hp.putO (.deferred none) hDz) (notc hDz) }
      · rintro Dm ch W1 ⟨rfl, k, hk, hok, hcd, gw, cw, sp, hDk, HJ⟩ hDm hDl
        have H9 := HJ.loop (Hp.putO (.deferred none) hDm) (notc hDm) (by omega)
        have hbd := putsN_bd (D.kept.length - 2) W.fin (frm b) D (k + 1)
        refine ⟨Dm, W1.putObj Dm (.deferred none), rfl, run_takeDeferred hDm, rfl, k, hk, hok, hcd, { m with gw := gw, cw := cw, sp := sp }, rfl, rfl, rfl, XsOk.refl _ _, ?_, H9⟩
        exact { h with d := hDk, lst := hlst.to H9, size := by rw [hbd.2]; exact hsize, fin := by rw [hbd.2]; exact hfin }
end Rn
end Go.Proofs.Ytgkciibfpenjpaa
