/- Walks of layer 2, printed by wip/gen/codec.py. -/
import Derived.Test.YtgkciibfpenjpaaNrm
import Derived.Test.YtgkciibfpenjpaaWlwK
namespace Go.Proofs.Ytgkciibfpenjpaa
open Go Go.RowKit
set_option linter.unusedVariables false
attribute [local irreducible] Still Ops Does Cd
theorem AppO.first {n : Nat} {σ σ' : Sx} {b : Blk} (h : AppO n σ b σ') : σ'.W.first = σ.W.first := by
  rcases h with ⟨_, h, _⟩ | ⟨_, _, h, _⟩ | ⟨_, _, _, h, _⟩
  · rw [h]
  · rw [h]
  · exact h
theorem ks_lt {w : World} {A : Option Addr} {l : List Int} (hr : Rd w A l.length 1 (i64s l)) (h0 : 0 < l.length) {p : Addr} (hp : A = some p) : p.block < w.heap.size := by
  have h5 : 0 < (i64s l).length := by unfold i64s; rw [List.length_map]; exact h0
  have h6 := World.block_lt_of_cell? w _ (hr.cells p hp 0 _ (List.getElem?_eq_getElem h5))
  rw [Addr.add_zero'] at h6
  exact h6
set_option maxRecDepth 100000 in
set_option maxHeartbeats 16000000 in
theorem walSafe_any (A : Option Addr) (zs : List Value) (bs : List Blk) (c : Nat) (A1 : Option Addr) (zs1 : List Value) (bs1 : List Blk) (c1 : Nat) (a2 a3 : Int) (A4 : Option Addr) (ks : List Int) (c4 : Nat) (A5 : Option Addr) (xs : List Int) (c5 : Nat) (w0 : World) (hA : Rd w0 A bs.length 1 zs) (hL : Lsw w0 [] zs bs) (hA1 : Rd w0 A1 bs1.length 1 zs1) (hL1 : Lsw w0 [] zs1 bs1) (ha30 : -9223372036854775808 ≤ a3) (ha31 : a3 ≤ 9223372036854775807) (hA4 : Rd w0 A4 ks.length 1 (i64s ks)) (hA5 : Rd w0 A5 xs.length 1 (i64s xs)) :
    Does Try.prog 8 #[.slice A bs.length c, .slice A1 bs1.length c1, .int .i64 a2, .int .i64 a3, .slice A4 ks.length c4, .slice A5 xs.length c5] w0 (fun r w' => r = .bool true ∧ Hp w0 w' [] []) := by
  refine does_of Try.func8 Try.ntmps8 rfl ?_
  refine nR211 ?_
  have H := Hp.refl w0
  refine run_seq ?_
  refine run_region ?_
  refine ops_val (ex_assign rfl) ?_
  refine ops_nil ?_
  refine nR211 ?_
  refine run_seq ?_
  refine run_region ?_
  refine ops_call (ex_call gf9 rfl) (liveBegin_any 1024 _ (by decide) (by decide)) ?_
  rintro r w1 ⟨s0, hr, hl, hag, hrc, hfs, htd, hka, hkf, Hc⟩
  rw [hr]
  have HB : Hp w0 w1 [] (s0.rows ++ []) := by rw [List.append_nil]; exact (H.call0 Hc).right
  have H1 := HB.here
  refine ops_val (ex_assign rfl) ?_
  refine ops_nil ?_
  refine nR211 ?_
  refine run_seq ?_
  refine run_seq ?_
  refine run_region ?_
  refine ops_call_val (ex_call gf10 rfl) (awake_any _) ?_
  intro w2 Hd
  replace hl := hl.keep0 Hd
  have H2 := H1.callN Hd
  refine ops_val (ex_not rfl) ?_
  refine ops_val (ex_move rfl) ?_
  refine nO211 ?_
  refine ops_yes rfl ?_
  refine ops_val (ex_move rfl) ?_
  refine ops_yes rfl ?_
  refine ops_false (ex_eql_nil_ptr Try.underlying24 rfl) (by simp) ?_
  refine ops_val (ex_pick_f rfl rfl) ?_
  refine ops_nil ?_
  refine nR211 ?_
  refine run_cond_false rfl ?_
  refine run_skip ?_
  refine run_seq ?_
  refine run_region ?_
  refine ops_val (ex_assign rfl) ?_
  refine ops_nil ?_
  refine nR211 ?_
  refine run_seq ?_
  refine run_seq ?_
  refine run_region ?_
  refine ops_val (ex_assign rfl) ?_
  refine ops_nil ?_
  refine nR211 ?_
  refine run_block ?_
  refine run_loop (fun n l w => ∃ (i : Nat) (y : Int) (s : Sx), 40 - i = n ∧ Fits [some (.slice A bs.length c), some (.slice A1 bs1.length c1), some (.int .i64 a2), some (.int .i64 a3), some (.slice A4 ks.length c4), some (.slice A5 xs.length c5), none, none, none, none, none, none, none, some (.pointer (some ⟨s0.k.gb, 0, none⟩)), none, some (.int .i64 y), none, none, none, none, none, none, none, none, none, none, none, none, none, none, none, none, none, none, none, none, none, none, none, none, none, none, none, none, none, none, none, none, none, none, none, none, none, none, none, none, none, none, none, none, none, none, none, none, none, none, none, none, none, none, none, none, none, none, none, none, none, none, none, none, none, none, none, none, none, none, none, none, none, none, none, none, none, none, none, none, none, none, none, none, none, none, none, none, none, none, none, none, none, none, none, none, none, none, none, none, none, none, none, none, none, none, none, none, none, none, none, none, none, none, none, none, none, none, none, none, none, none, none, none, none, none, none, none, none, none, none, none, none, none, none, none, none, none, none, none, none, none, none, none, none, none, none, none, none, none, none, none, none, none, none, none, none, none, none, none, none, none, none, none, none, none, none, none, none, none, none, none, none, none, none, none, none, none, none, none, none, none, none, none, none, none, none, none, none, none, none, none, none, none, none] l ∧ y = (i : Int) ∧ i ≤ 40 ∧ s.k.gb = s0.k.gb ∧ Live w s [] 1024 i ∧ Agr s.W s.K ∧ s.W.first = 0 ∧ Hp w0 w [] (s.rows ++ [])) (40) ?_ ?_
  · exact ⟨0, _, s0, rfl, (fs (fs (fs (fs (fs (fs (fn (fn (fn (fn (fn (fn (fn (fs (fn (fs (fn (fn (fn (fn (fn (fn (fn (fn (fn (fn (fn (fn (fn (fn (fn (fn (fn (fn (fn (fn (fn (fn (fn (fn (fn (fn (fn (fn (fn (fn (fn (fn (fn (fn (fn (fn (fn (fn (fn (fn (fn (fn (fn (fn (fn (fn (fn (fn (fn (fn (fn (fn (fn (fn (fn (fn (fn (fn (fn (fn (fn (fn (fn (fn (fn (fn (fn (fn (fn (fn (fn (fn (fn (fn (fn (fn (fn (fn (fn (fn (fn (fn (fn (fn (fn (fn (fn (fn (fn (fn (fn (fn (fn (fn (fn (fn (fn (fn (fn (fn (fn (fn (fn (fn (fn (fn (fn (fn (fn (fn (fn (fn (fn (fn (fn (fn (fn (fn (fn (fn (fn (fn (fn (fn (fn (fn (fn (fn (fn (fn (fn (fn (fn (fn (fn (fn (fn (fn (fn (fn (fn (fn (fn (fn (fn (fn (fn (fn (fn (fn (fn (fn (fn (fn (fn (fn (fn (fn (fn (fn (fn (fn (fn (fn (fn (fn (fn (fn (fn (fn (fn (fn (fn (fn (fn (fn (fn (fn (fn (fn (fn (fn (fn (fn (fn (fn (fn (fn (fn (fn (fn (fn (fn (fn (fn f0))))))))))))))))))))))))))))))))))))))))))))))))))))))))))))))))))))))))))))))))))))))))))))))))))))))))))))))))))))))))))))))))))))))))))))))))))))))))))))))))))))))))))))))))))))))))))))))))))))))))))))))))))), rfl, Nat.zero_le _, rfl, hl, hag, hfs, HB.all H2⟩
  · rintro n l w3 ⟨i, y, s, rfl, hfit, rfl, hi, hgb, hl, hag, hf0, H3⟩
    obtain ⟨j, rfl⟩ := hfit.open
    refine nR211 ?_
    clear hfit
    have HB := H3
    replace H3 := HB.here
    rw [← hgb]
    refine run_seq ?_
    refine run_seq ?_
    refine run_region ?_
    refine ops_val (ex_move rfl) ?_
    refine ops_val (ex_move rfl) ?_
    refine ops_val (ex_len_slice Try.underlying29 rfl) ?_
    refine ops_test (ex_lss rfl rfl) (fun hp30 => ?_) (fun hp30 => ?_)
    · have hix : i < bs.length := by omega
      obtain ⟨Be, ce, hzi, hrd, _⟩ := hL.2 i hix
      refine ops_val (ex_move rfl) ?_
      refine nO211 ?_
      refine ops_yes rfl ?_
      refine ops_val (ex_move rfl) ?_
      refine ops_yes rfl ?_
      refine ops_test (ex_lss rfl rfl) (fun hp33 => ?_) (fun hp33 => ?_)
      · have him : i < 40 := by omega
        obtain ⟨pa, rfl⟩ := hA.some_ (by omega)
        refine ops_val (ex_pick_t rfl rfl) ?_
        refine ops_nil ?_
        refine nR211 ?_
        refine run_cond_true rfl ?_
        refine run_skip ?_
        refine run_seq ?_
        refine run_block ?_
        refine run_seq ?_
        refine run_region ?_
        refine ops_val (ex_move rfl) ?_
        refine ops_val (ex_move rfl) ?_
        refine ops_val (ex_idx Try.underlying29 ty34 rfl rfl rfl hix (Nat.mul_one _)) ?_
        refine ops_val (ex_load ty34 rfl ((hA.to0 (HB.all H3)).cells pa rfl i _ hzi)) ?_
        refine nO211 ?_
        refine ops_val (ex_len_slice Try.underlying34 rfl) ?_
        refine ops_test (ex_leq rfl rfl) (fun hp42 => ?_) (fun hp42 => ?_)
        · have h300 : bs[i].length ≤ 300 := by omega
          refine ops_val (ex_move rfl) ?_
          refine nO211 ?_
          refine ops_yes rfl ?_
          refine ops_val (ex_move rfl) ?_
          refine ops_yes rfl ?_
          refine ops_val (ex_move rfl) ?_
          refine nO211 ?_
          refine ops_yes rfl ?_
          refine ops_val (ex_move rfl) ?_
          refine ops_yes rfl ?_
          refine ops_val (ex_idx Try.underlying29 ty34 rfl rfl rfl hix (Nat.mul_one _)) ?_
          refine nO211 ?_
          refine ops_yes rfl ?_
          refine ops_val (ex_load ty34 rfl ((hA.to0 (HB.all H3)).cells pa rfl i _ hzi)) ?_
          refine ops_yes rfl ?_
          have HB : Hp w0 w3 [] (s.rows ++ []) := HB.all H3
          refine ops_call (ex_call gf14 rfl) (liveAppend_any s 1024 i _ HB.less.here hl.less hag (by omega) Be bs[i] ce (hrd.to0 HB) (fun h0 p hp hx => old_not HB.less (rd_lt hrd h0 hp) (fun hx => by cases hx) hx) (by omega)) ?_
          rintro r w4 ⟨hr1, s1, hp, hag, ho⟩
          rw [hr1]
          obtain ⟨_, _, hgb, hl, Hc⟩ := hp.more hl (lt_rest HB)
          have HB : Hp w0 w4 [] (s1.rows ++ []) := HB.front Hc
          have H4 := HB.here
          rw [← hgb]
          refine nO211 ?_
          refine ops_yes rfl ?_
          refine ops_val (ex_not rfl) ?_
          refine ops_val (ex_pick_t rfl rfl) ?_
          refine ops_nil ?_
          refine nR211 ?_
          refine run_cond_false rfl ?_
          refine run_skip ?_
          refine run_nil (blk_normal ?_)
          refine run_region ?_
          refine ops_val (ex_move rfl) ?_
          refine ops_val (ex_add rfl rfl (IntWalk.i64_in _ (by omega))) ?_
          refine ops_val (ex_assign rfl) ?_
          refine ops_nil ?_
          refine nR211 ?_
          refine run_nil (rnd_normal ?_)
          exact ⟨40 - (i + 1), by omega, i + 1, _, s1, rfl, (fs (fs (fs (fs (fs (fs (fn (fn (fn (fn (fn (fn (fn (fs (fn (fs (fn (fn (fn (fn (fn (fn (fn (fn (fn (fn (fn (fn (fn (fn (fn (fn (fn (fn (fn (fn (fn (fn (fn (fn (fn (fn (fn (fn (fn (fn (fn (fn (fn (fn (fn (fn (fn (fn (fn (fn (fn (fn (fn (fn (fn (fn (fn (fn (fn (fn (fn (fn (fn (fn (fn (fn (fn (fn (fn (fn (fn (fn (fn (fn (fn (fn (fn (fn (fn (fn (fn (fn (fn (fn (fn (fn (fn (fn (fn (fn (fn (fn (fn (fn (fn (fn (fn (fn (fn (fn (fn (fn (fn (fn (fn (fn (fn (fn (fn (fn (fn (fn (fn (fn (fn (fn (fn (fn (fn (fn (fn (fn (fn (fn (fn (fn (fn (fn (fn (fn (fn (fn (fn (fn (fn (fn (fn (fn (fn (fn (fn (fn (fn (fn (fn (fn (fn (fn (fn (fn (fn (fn (fn (fn (fn (fn (fn (fn (fn (fn (fn (fn (fn (fn (fn (fn (fn (fn (fn (fn (fn (fn (fn (fn (fn (fn (fn (fn (fn (fn (fn (fn (fn (fn (fn (fn (fn (fn (fn (fn (fn (fn (fn (fn (fn (fn (fn (fn (fn (fn (fn (fn (fn (fn (fn f0))))))))))))))))))))))))))))))))))))))))))))))))))))))))))))))))))))))))))))))))))))))))))))))))))))))))))))))))))))))))))))))))))))))))))))))))))))))))))))))))))))))))))))))))))))))))))))))))))))))))))))))))))), by omega, by omega, rfl, hl, hag, ho.first.trans hf0, HB⟩
        · skip
          refine ops_val (ex_move rfl) ?_
          refine nO211 ?_
          refine ops_no rfl ?_
          refine ops_no rfl ?_
          refine nO211 ?_
          refine ops_no rfl ?_
          refine ops_no rfl ?_
          refine nO211 ?_
          refine ops_no rfl ?_
          refine ops_no rfl ?_
          refine nO211 ?_
          refine ops_no rfl ?_
          refine ops_val (ex_pick_f rfl rfl) ?_
          refine ops_nil ?_
          refine nR211 ?_
          refine run_cond_false rfl ?_
          refine run_skip ?_
          refine run_nil (blk_normal ?_)
          refine run_region ?_
          refine ops_val (ex_move rfl) ?_
          refine ops_val (ex_add rfl rfl (IntWalk.i64_in _ (by omega))) ?_
          refine ops_val (ex_assign rfl) ?_
          refine ops_nil ?_
          refine nR211 ?_
          refine run_nil (rnd_normal ?_)
          exact ⟨40 - (i + 1), by omega, i + 1, _, s, rfl, (fs (fs (fs (fs (fs (fs (fn (fn (fn (fn (fn (fn (fn (fs (fn (fs (fn (fn (fn (fn (fn (fn (fn (fn (fn (fn (fn (fn (fn (fn (fn (fn (fn (fn (fn (fn (fn (fn (fn (fn (fn (fn (fn (fn (fn (fn (fn (fn (fn (fn (fn (fn (fn (fn (fn (fn (fn (fn (fn (fn (fn (fn (fn (fn (fn (fn (fn (fn (fn (fn (fn (fn (fn (fn (fn (fn (fn (fn (fn (fn (fn (fn (fn (fn (fn (fn (fn (fn (fn (fn (fn (fn (fn (fn (fn (fn (fn (fn (fn (fn (fn (fn (fn (fn (fn (fn (fn (fn (fn (fn (fn (fn (fn (fn (fn (fn (fn (fn (fn (fn (fn (fn (fn (fn (fn (fn (fn (fn (fn (fn (fn (fn (fn (fn (fn (fn (fn (fn (fn (fn (fn (fn (fn (fn (fn (fn (fn (fn (fn (fn (fn (fn (fn (fn (fn (fn (fn (fn (fn (fn (fn (fn (fn (fn (fn (fn (fn (fn (fn (fn (fn (fn (fn (fn (fn (fn (fn (fn (fn (fn (fn (fn (fn (fn (fn (fn (fn (fn (fn (fn (fn (fn (fn (fn (fn (fn (fn (fn (fn (fn (fn (fn (fn (fn (fn (fn (fn (fn (fn (fn (fn f0))))))))))))))))))))))))))))))))))))))))))))))))))))))))))))))))))))))))))))))))))))))))))))))))))))))))))))))))))))))))))))))))))))))))))))))))))))))))))))))))))))))))))))))))))))))))))))))))))))))))))))))))))), by omega, by omega, rfl, hl.up_ (by omega), hag, hf0, HB.all H3⟩
      · skip
        refine ops_val (ex_pick_t rfl rfl) ?_
        refine ops_nil ?_
        refine nR211 ?_
        refine run_cond_false rfl ?_
        refine run_exit ?_
        refine rnd_exit ?_
        refine blk_exit ?_
        refine run_seq ?_
        refine run_region ?_
        refine ops_val (ex_move rfl) ?_
        have hn1 := hag.next
        have hf1 := hag.first
        have hnx := hl.next
        obtain ⟨u, huu⟩ := u64_nat a2
        refine ops_val (ex_conv Try.underlying23 Try.underlying3 rfl huu) ?_
        refine ops_val (ex_move rfl) ?_
        refine ops_val (ex_nilCheck rfl) ?_
        refine nO211 ?_
        refine ops_val (ex_fieldAddr fl31_3 rfl) ?_
        refine ops_val (ex_load ty3 rfl (H3.cell (i := 6) rfl rfl)) ?_
        refine ops_val (ex_add rfl rfl ((IntWalk.i64_in _ (by omega)).trans (show ((s.K.all.length : Int) + 1) = ((s.K.all.length + 1 : Nat) : Int) by omega))) ?_
        refine ops_val (ex_conv Try.underlying23 Try.underlying3 rfl (IntWalk.u64_in _ (by omega))) ?_
        refine nO211 ?_
        refine ops_val (ex_rem rfl rfl (by omega) (tmodN u (s.K.all.length + 1))) ?_
        have hgo : u % (s.K.all.length + 1) < s.K.all.length + 1 := Nat.mod_lt _ (by omega)
        generalize u % (s.K.all.length + 1) = nn at hgo
        refine ops_val (ex_conv Try.underlying3 Try.underlying23 rfl (IntWalk.i64_in _ (by omega))) ?_
        refine ops_val (ex_assign rfl) ?_
        refine ops_nil ?_
        refine nR211 ?_
        refine run_seq ?_
        refine run_seq ?_
        refine run_region ?_
        refine ops_val (ex_move rfl) ?_
        refine ops_val (ex_nilCheck rfl) ?_
        refine ops_val (ex_fieldAddr fl31_1 rfl) ?_
        refine ops_val (ex_load ty28 rfl (H3.cell (i := 6) rfl rfl)) ?_
        refine nO211 ?_
        have HB : Hp w0 w3 [] (s.rows ++ []) := HB.all H3
        have hwt := hl.wait
        have htn := hl.turn
        have hft := hl.first
        refine ops_call (ex_call gf16 rfl) (sync_all s.m s.D s.W _ HB.less.less.here hl.ok.ok (by omega) (by omega) (by omega)) ?_
        rintro r w4 ⟨x, D4, W4, hr4, hres, hwp⟩
        obtain ⟨hx0, hrc4, hfs4, htd4, hwt4, q, hl, Hc⟩ := hl.sc (gone := 0) (by omega) (lt_rest2 HB) (Nat.zero_le _) hres hwp (by omega)
        rw [hr4, hx0]
        rw [List.drop_zero] at hrc4
        have HB : Hp w0 w4 [] ((⟨mv s.m q, D4, W4, s.k, s.K⟩ : Sx).rows ++ []) := HB.front2 Hc
        have H4 := HB.here
        have hln4 : W4.recs.length = s.W.recs.length := by rw [hrc4]
        clear hres hwp
        refine ops_false (ex_neq rfl rfl) (by decide) ?_
        refine ops_val (ex_move rfl) ?_
        refine nO211 ?_
        refine ops_yes rfl ?_
        refine ops_val (ex_move rfl) ?_
        refine ops_yes rfl ?_
        refine ops_val (ex_nilCheck rfl) ?_
        refine nO211 ?_
        refine ops_yes rfl ?_
        refine ops_val (ex_fieldAddr fl31_1 rfl) ?_
        refine ops_yes rfl ?_
        refine ops_val (ex_load ty28 rfl (H4.cell (i := 6) rfl rfl)) ?_
        refine nO211 ?_
        refine ops_yes rfl ?_
        refine ops_val (ex_move rfl) ?_
        refine ops_yes rfl ?_
        have hwt : D4.wait.length ≤ _ := hl.wait
        have htn : W4.turn ≤ _ := hl.turn
        have hft : W4.first ≤ _ := hl.first
        refine ops_call (ex_call gf13 rfl) (cut_all (nn : Int) (mv s.m q) D4 W4 _ HB.less.less.here hl.ok.ok (by omega) (by omega) (by omega)) ?_
        rintro r w5 hcut
        obtain ⟨x3, D3, W3, hr, hres, hwp⟩ := cut_some hcut (gone := nn) (by omega) (by omega)
        clear hcut
        have hlk : Live _ (⟨mv s.m q, D4, W4, s.k, s.K⟩ : Sx) [] 1024 _ := hl
        obtain ⟨hx3, hrc3, hfs3, htd3, hwt3, q1, hl, Hc⟩ := hlk.sc (by omega) (lt_rest2 HB) (by show nn ≤ W4.recs.length; omega) hres hwp (by show W4.first + W4.recs.length ≤ _; omega)
        rw [hr, hx3]
        clear hres hwp
        replace hrc3 : W3.recs = W4.recs.drop nn := hrc3
        replace hfs3 : W3.first = W4.first + nn := hfs3
        have hln3 : W3.recs.length = s.W.recs.length - nn := by rw [hrc3, List.length_drop]; omega
        have HB : Hp w0 w5 [] ((⟨mv s.m q1, D3, W3, s.k, s.K⟩ : Sx).rows ++ []) := HB.front2 Hc
        have H5 := HB.here
        refine nO211 ?_
        refine ops_yes rfl ?_
        refine ops_false (ex_neq rfl rfl) (by decide) ?_
        refine ops_val (ex_pick_f rfl rfl) ?_
        refine ops_nil ?_
        refine nR211 ?_
        refine run_cond_false rfl ?_
        refine run_skip ?_
        refine run_seq ?_
        refine run_region ?_
        refine ops_val (ex_move rfl) ?_
        refine ops_val (ex_move rfl) ?_
        refine ops_val (ex_move rfl) ?_
        refine ops_val (ex_nilCheck rfl) ?_
        refine nO211 ?_
        refine ops_val (ex_fieldAddr fl31_3 rfl) ?_
        refine ops_val (ex_load ty3 rfl (H5.cell (i := 6) rfl rfl)) ?_
        refine ops_val (ex_move rfl) ?_
        refine ops_val (ex_nilCheck rfl) ?_
        refine nO211 ?_
        refine ops_val (ex_fieldAddr fl31_4 rfl) ?_
        refine ops_store1 ty3 H5 6 rfl rfl rfl rfl (by first | decide | simp) rfl ?_
        intro w6 H6
        refine ops_val (ex_nilCheck rfl) ?_
        refine ops_val (ex_fieldAddr fl31_5 rfl) ?_
        refine ops_store1 ty3 H6 6 rfl rfl rfl rfl (by first | decide | simp) rfl ?_
        intro w7 H7
        refine ops_nil ?_
        refine nR211 ?_
        refine run_seq ?_
        refine run_region ?_
        refine ops_val (ex_move rfl) ?_
        refine ops_val (ex_nilCheck rfl) ?_
        refine ops_val (ex_fieldAddr fl31_0 rfl) ?_
        refine ops_val (ex_load ty27 rfl (H7.cell (i := 6) rfl rfl)) ?_
        refine nO211 ?_
        refine ops_val (ex_move rfl) ?_
        have HB : Hp w0 w7 [] ((⟨mv s.m q1, D3, W3, s.k, { s.K with safe := s.K.all.length, first := nn }⟩ : Sx).rows ++ []) := HB.all H7
        replace hl : Live w7 (⟨mv s.m q1, D3, W3, s.k, { s.K with safe := s.K.all.length, first := nn }⟩ : Sx) [] 1024 (i + 1 + 1) := (hl.to H7).re { s.K with safe := s.K.all.length, first := nn } rfl
        obtain ⟨sp0, hlg3⟩ := hl.lg
        have hsz3 : D3.kept.length = 1024 := hl.size
        have hlg3 : Lg D3.show 1024 W3 sp0 := by rw [← hsz3]; exact hlg3
        have hF1 : Fal D3 1024 W3 sp0 := ⟨hwt3, hsz3, hlg3⟩
        have hag3 : Agr W3 { s.K with safe := s.K.all.length, first := nn } := ⟨by show nn = W3.first; omega, by show s.K.all.length = W3.first + W3.recs.length; omega, by show W3.recs = s.K.all.drop W3.first; rw [hrc3, hrc4, hag.recs, List.drop_drop, hfs3, hf0, hfs4]; congr 1; omega⟩
        have hup3 : D3.down = false := hl.up
        have htu3 : W3.turn ≤ _ := hl.turn
        have hnx3 : s.K.all.length ≤ _ := hl.next
        refine ops_call (ex_call gf26 rfl) (arm_any (mv s.m q1).gd (mv s.m q1).gk (mv s.m q1).gw (mv s.m q1).cw (mv s.m q1).sp D3 _ HB.less.less.less.here hl.ok.ok.d a3 ha30 ha31) ?_
        rintro r w8 ⟨hr, hp⟩
        rw [hr]
        obtain ⟨D5, hD5⟩ : ∃ D', (D3.arm a3).1 = D' := ⟨_, rfl⟩
        have hk5 : D5.kept = D3.kept ∧ D5.wait = [] ∧ D5.down = false := by rw [← hD5, arm_ok hup3]; exact ⟨rfl, hwt3, hup3⟩
        rw [hD5] at hp
        obtain ⟨q2, hok5, Hd⟩ := hl.ok.disk (by rw [hk5.1]) hp
        have HB : Hp w0 w8 [] ((⟨md (mv s.m q1) q2, D5, W3, s.k, { s.K with safe := s.K.all.length, first := nn }⟩ : Sx).rows ++ []) := by
          have hz := Hp.front3 (a := dRows (mv s.m q1).gd (mv s.m q1).gk (mv s.m q1).gw (mv s.m q1).cw (mv s.m q1).sp D3) (b := lRows (mv s.m q1) W3) (d := kRows (mv s.m q1) s.k { s.K with safe := s.K.all.length, first := nn }) (R := []) HB Hd
          exact hz
        have har : Armd w8 (⟨md (mv s.m q1) q2, D5, W3, s.k, { s.K with safe := s.K.all.length, first := nn }⟩ : Sx) [] D3 W3 { s.K with safe := s.K.all.length, first := nn } 1024 sp0 (i + 2) := ⟨hok5, hk5.1, by show Fresh1 _ _ _ D5.wait; rw [hk5.2.1]; exact (fun p hp => by cases hp), by show D5.wait.length ≤ _; rw [hk5.2.1]; exact Nat.zero_le _, fun _ => ⟨by
            have e : D5.show = D3.show := funext fun i => by rw [show_kept hk5.2.1, show_kept hwt3, hk5.1]
            show Lg D5.show _ _ _
            rw [e]; exact hlg3, hl.dead, hag3, Nat.le_refl _, rfl, rfl⟩, List.take_of_length_le (Nat.le_refl _), ⟨Nat.le_refl _, by show s.K.all.length ≤ _; omega⟩, rfl, rfl⟩
        have H8 := HB.here
        refine ops_nil ?_
        refine nR211 ?_
        refine run_seq ?_
        refine run_seq ?_
        refine run_region ?_
        refine ops_val (ex_assign rfl) ?_
        refine ops_nil ?_
        refine nR211 ?_
        refine run_block ?_
        refine run_loop (fun n l w => ∃ (i2 : Nat) (y2 : Int) (s2 : Sx), 20 - i2 = n ∧ Fits [some (.slice A bs.length c), some (.slice A1 bs1.length c1), some (.int .i64 a2), some (.int .i64 a3), some (.slice A4 ks.length c4), some (.slice A5 xs.length c5), none, none, none, none, none, none, none, some (.pointer (some ⟨s.k.gb, 0, none⟩)), some (.int .i64 (nn : Int)), none, some (.int .i64 y2), none, none, none, none, none, none, none, none, none, none, none, none, none, none, none, none, none, none, none, none, none, none, none, none, none, none, none, none, none, none, none, none, none, none, none, none, none, none, none, none, none, none, none, none, none, none, none, none, none, none, none, none, none, none, none, none, none, none, none, none, none, none, none, none, none, none, none, none, none, none, none, none, none, none, none, none, none, none, none, none, none, none, none, none, none, none, none, none, none, none, none, none, none, none, none, none, none, none, none, none, none, none, none, none, none, none, none, none, none, none, none, none, none, none, none, none, none, none, none, none, none, none, none, none, none, none, none, none, none, none, none, none, none, none, none, none, none, none, none, none, none, none, none, none, none, none, none, none, none, none, none, none, none, none, none, none, none, none, none, none, none, none, none, none, none, none, none, none, none, none, none, none, none, none, none, none, none, none, none, none, none, none, none, none, none, none, none, none, none, none, none, none, none, none] l ∧ y2 = (i2 : Int) ∧ i2 ≤ 20 ∧ s2.k.gb = s.k.gb ∧ Armd w s2 [] D3 W3 { s.K with safe := s.K.all.length, first := nn } 1024 sp0 (i + 2 + i2) ∧ Hp w0 w [] (s2.rows ++ [])) (20) ?_ ?_
        · exact ⟨0, _, (⟨md (mv s.m q1) q2, D5, W3, s.k, { s.K with safe := s.K.all.length, first := nn }⟩ : Sx), rfl, (fs (fs (fs (fs (fs (fs (fn (fn (fn (fn (fn (fn (fn (fs (fs (fn (fs (fn (fn (fn (fn (fn (fn (fn (fn (fn (fn (fn (fn (fn (fn (fn (fn (fn (fn (fn (fn (fn (fn (fn (fn (fn (fn (fn (fn (fn (fn (fn (fn (fn (fn (fn (fn (fn (fn (fn (fn (fn (fn (fn (fn (fn (fn (fn (fn (fn (fn (fn (fn (fn (fn (fn (fn (fn (fn (fn (fn (fn (fn (fn (fn (fn (fn (fn (fn (fn (fn (fn (fn (fn (fn (fn (fn (fn (fn (fn (fn (fn (fn (fn (fn (fn (fn (fn (fn (fn (fn (fn (fn (fn (fn (fn (fn (fn (fn (fn (fn (fn (fn (fn (fn (fn (fn (fn (fn (fn (fn (fn (fn (fn (fn (fn (fn (fn (fn (fn (fn (fn (fn (fn (fn (fn (fn (fn (fn (fn (fn (fn (fn (fn (fn (fn (fn (fn (fn (fn (fn (fn (fn (fn (fn (fn (fn (fn (fn (fn (fn (fn (fn (fn (fn (fn (fn (fn (fn (fn (fn (fn (fn (fn (fn (fn (fn (fn (fn (fn (fn (fn (fn (fn (fn (fn (fn (fn (fn (fn (fn (fn (fn (fn (fn (fn (fn (fn (fn (fn (fn (fn (fn (fn (fn f0))))))))))))))))))))))))))))))))))))))))))))))))))))))))))))))))))))))))))))))))))))))))))))))))))))))))))))))))))))))))))))))))))))))))))))))))))))))))))))))))))))))))))))))))))))))))))))))))))))))))))))))))))), rfl, Nat.zero_le _, rfl, har, HB.all H8⟩
        · rintro n l w9 ⟨i2, y2, s2, rfl, hfit, rfl, hi2, hgb2, har, H9⟩
          obtain ⟨j, rfl⟩ := hfit.open
          refine nR211 ?_
          clear hfit
          have HB := H9
          replace H9 := HB.here
          rw [← hgb2]
          have hsz2 : s2.D.kept.length = 1024 := by rw [har.kept]; exact hsz3
          have hwt2 := har.wait
          have hnx2 := har.next
          refine run_seq ?_
          refine run_seq ?_
          refine run_region ?_
          refine ops_val (ex_move rfl) ?_
          refine ops_val (ex_move rfl) ?_
          refine ops_val (ex_len_slice Try.underlying29 rfl) ?_
          refine ops_test (ex_lss rfl rfl) (fun hp97 => ?_) (fun hp97 => ?_)
          · have hix : i2 < bs1.length := by omega
            obtain ⟨Be, ce, hzi, hrd, _⟩ := hL1.2 i2 hix
            refine ops_val (ex_move rfl) ?_
            refine nO211 ?_
            refine ops_yes rfl ?_
            refine ops_val (ex_move rfl) ?_
            refine ops_yes rfl ?_
            refine ops_test (ex_lss rfl rfl) (fun hp100 => ?_) (fun hp100 => ?_)
            · have him : i2 < 20 := by omega
              refine ops_val (ex_pick_t rfl rfl) ?_
              refine ops_val (ex_move rfl) ?_
              refine nO211 ?_
              refine ops_yes rfl ?_
              refine ops_val (ex_move rfl) ?_
              refine ops_yes rfl ?_
              refine ops_val (ex_nilCheck rfl) ?_
              refine nO211 ?_
              refine ops_yes rfl ?_
              refine ops_val (ex_fieldAddr fl31_0 rfl) ?_
              refine ops_yes rfl ?_
              refine ops_val (ex_load ty27 rfl (H9.cell (i := 6) rfl rfl)) ?_
              refine nO211 ?_
              refine ops_yes rfl ?_
              refine ops_call_eq (ex_call gf27 rfl) (down_p _ s2.D.down _ (H9.cell (i := 0) (o := 2) rfl rfl)) ?_
              rcases Bool.eq_false_or_eq_true s2.D.down with hdn | hdn <;> rw [hdn]
              · skip
                refine ops_yes rfl ?_
                refine ops_val (ex_not rfl) ?_
                refine ops_val (ex_pick_t rfl rfl) ?_
                refine ops_nil ?_
                refine nR211 ?_
                refine run_cond_false rfl ?_
                refine run_exit ?_
                refine rnd_exit ?_
                refine blk_exit ?_
                refine run_seq ?_
                refine run_region ?_
                refine ops_val (ex_move rfl) ?_
                refine ops_val (ex_nilCheck rfl) ?_
                refine ops_val (ex_fieldAddr fl31_0 rfl) ?_
                refine ops_val (ex_load ty27 rfl (H9.cell (i := 6) rfl rfl)) ?_
                refine nO211 ?_
                refine ops_val (ex_move rfl) ?_
                have HB : Hp w0 w9 [] (s2.rows ++ []) := HB.all H9
                have HD : Hp w0 w9 [] (dRows s2.m.gd s2.m.gk s2.m.gw s2.m.cw s2.m.sp s2.D) := HB.less.less.less
                refine ops_call (ex_call gf25 rfl) (crash_any s2.m.gd s2.m.gk s2.m.gw s2.m.cw s2.m.sp s2.D _ HD.here har.ok.ok.d A4 ks c4 (hA4.to0 HB) (fun h0 p hp hx => old_not HD (ks_lt hA4 h0 hp) (fun hx => by cases hx) hx) (by omega)) ?_
                rintro r w10 ⟨hr, hp⟩
                rw [hr]
                have hF2 := hF1.fall har.kept har.fresh ks
                obtain ⟨q4, he, Hd⟩ := har.ok.bare.disk hp
                obtain ⟨D7, hD7⟩ : ∃ D', s2.D.crash ks = D' := ⟨_, rfl⟩
                rw [hD7] at he Hd hF2
                have HB : Hp w0 w10 [] (eRows (md s2.m q4) D7 s2.k s2.K) := (Hp.front3 (a := dRows s2.m.gd s2.m.gk s2.m.gw s2.m.cw s2.m.sp s2.D) (b := lRows s2.m s2.W) (d := kRows s2.m s2.k s2.K) (R := []) HB Hd).pick [0, 1, 2, 6, 7] (by decide)
                have H10 := HB.here
                refine ops_nil ?_
                refine nR211 ?_
                refine run_seq ?_
                refine run_seq ?_
                refine run_region ?_
                refine ops_val (ex_assign rfl) ?_
                refine ops_nil ?_
                refine nR211 ?_
                refine run_block ?_
                refine run_loop (fun n l w => ∃ (i3 : Nat) (y3 : Int) (q5 : Mw) (D8 : Dk), 5 - i3 = n ∧ Fits [some (.slice A bs.length c), some (.slice A1 bs1.length c1), some (.int .i64 a2), some (.int .i64 a3), some (.slice A4 ks.length c4), some (.slice A5 xs.length c5), none, none, none, none, none, none, none, some (.pointer (some ⟨s2.k.gb, 0, none⟩)), some (.int .i64 (nn : Int)), none, none, some (.int .i64 y3), none, none, none, none, none, none, none, none, none, none, none, none, none, none, none, none, none, none, none, none, none, none, none, none, none, none, none, none, none, none, none, none, none, none, none, none, none, none, none, none, none, none, none, none, none, none, none, none, none, none, none, none, none, none, none, none, none, none, none, none, none, none, none, none, none, none, none, none, none, none, none, none, none, none, none, none, none, none, none, none, none, none, none, none, none, none, none, none, none, none, none, none, none, none, none, none, none, none, none, none, none, none, none, none, none, none, none, none, none, none, none, none, none, none, none, none, none, none, none, none, none, none, none, none, none, none, none, none, none, none, none, none, none, none, none, none, none, none, none, none, none, none, none, none, none, none, none, none, none, none, none, none, none, none, none, none, none, none, none, none, none, none, none, none, none, none, none, none, none, none, none, none, none, none, none, none, none, none, none, none, none, none, none, none, none, none, none, none, none, none, none, none, none] l ∧ y3 = (i3 : Int) ∧ i3 ≤ 5 ∧ EOk w (md s2.m q5) D8 s2.k s2.K ∧ Fal D8 1024 W3 sp0 ∧ Hp w0 w [] (eRows (md s2.m q5) D8 s2.k s2.K)) (5) ?_ ?_
                · exact ⟨0, _, q4, D7, rfl, (fs (fs (fs (fs (fs (fs (fn (fn (fn (fn (fn (fn (fn (fs (fs (fn (fn (fs (fn (fn (fn (fn (fn (fn (fn (fn (fn (fn (fn (fn (fn (fn (fn (fn (fn (fn (fn (fn (fn (fn (fn (fn (fn (fn (fn (fn (fn (fn (fn (fn (fn (fn (fn (fn (fn (fn (fn (fn (fn (fn (fn (fn (fn (fn (fn (fn (fn (fn (fn (fn (fn (fn (fn (fn (fn (fn (fn (fn (fn (fn (fn (fn (fn (fn (fn (fn (fn (fn (fn (fn (fn (fn (fn (fn (fn (fn (fn (fn (fn (fn (fn (fn (fn (fn (fn (fn (fn (fn (fn (fn (fn (fn (fn (fn (fn (fn (fn (fn (fn (fn (fn (fn (fn (fn (fn (fn (fn (fn (fn (fn (fn (fn (fn (fn (fn (fn (fn (fn (fn (fn (fn (fn (fn (fn (fn (fn (fn (fn (fn (fn (fn (fn (fn (fn (fn (fn (fn (fn (fn (fn (fn (fn (fn (fn (fn (fn (fn (fn (fn (fn (fn (fn (fn (fn (fn (fn (fn (fn (fn (fn (fn (fn (fn (fn (fn (fn (fn (fn (fn (fn (fn (fn (fn (fn (fn (fn (fn (fn (fn (fn (fn (fn (fn (fn (fn (fn (fn (fn (fn (fn (fn f0))))))))))))))))))))))))))))))))))))))))))))))))))))))))))))))))))))))))))))))))))))))))))))))))))))))))))))))))))))))))))))))))))))))))))))))))))))))))))))))))))))))))))))))))))))))))))))))))))))))))))))))))))), rfl, Nat.zero_le _, he, hF2, HB.all H10⟩
                · rintro n l w11 ⟨i3, y3, q5, D8, rfl, hfit, rfl, hi3, he, hF3, H11⟩
                  obtain ⟨j, rfl⟩ := hfit.open
                  refine nR211 ?_
                  clear hfit
                  have HB := H11
                  replace H11 := HB.here
                  refine run_seq ?_
                  refine run_seq ?_
                  refine run_region ?_
                  refine ops_val (ex_move rfl) ?_
                  refine ops_val (ex_move rfl) ?_
                  refine ops_val (ex_len_slice Try.underlying22 rfl) ?_
                  refine ops_test (ex_lss rfl rfl) (fun hp136 => ?_) (fun hp136 => ?_)
                  · have hx5 : i3 < xs.length := by omega
                    refine ops_val (ex_move rfl) ?_
                    refine nO211 ?_
                    refine ops_yes rfl ?_
                    refine ops_val (ex_move rfl) ?_
                    refine ops_yes rfl ?_
                    refine ops_test (ex_lss rfl rfl) (fun hp139 => ?_) (fun hp139 => ?_)
                    · have hm5 : i3 < 5 := by omega
                      refine ops_val (ex_pick_t rfl rfl) ?_
                      refine ops_nil ?_
                      refine nR211 ?_
                      refine run_cond_true rfl ?_
                      refine run_skip ?_
                      refine run_seq ?_
                      refine run_block ?_
                      refine run_seq ?_
                      refine run_region ?_
                      refine ops_val (ex_move rfl) ?_
                      refine ops_val (ex_nilCheck rfl) ?_
                      refine ops_val (ex_fieldAddr fl31_0 rfl) ?_
                      refine ops_val (ex_load ty27 rfl (H11.cell (i := 3) rfl rfl)) ?_
                      refine nO211 ?_
                      have HB : Hp w0 w11 [] (eRows (md s2.m q5) D8 s2.k s2.K) := HB.all H11
                      refine ops_call (ex_call gf28 rfl) (start_any (md s2.m q5).gd (md s2.m q5).gk (md s2.m q5).gw (md s2.m q5).cw (md s2.m q5).sp D8 _ HB.less.here he.d) ?_
                      rintro r w12 ⟨hr, hp⟩
                      rw [hr]
                      obtain ⟨q6, he, Hd⟩ := he.disk (m := md s2.m q5) hp
                      obtain ⟨D9, hD9⟩ : ∃ D', D8.start = D' := ⟨_, rfl⟩
                      rw [hD9] at he Hd
                      obtain ⟨hF3, hd3⟩ := hF3.start
                      rw [hD9] at hF3 hd3
                      have HB : Hp w0 w12 [] (eRows (md s2.m q6) D9 s2.k s2.K) := HB.front Hd
                      have H12 := HB.here
                      refine ops_nil ?_
                      refine nR211 ?_
                      refine run_seq ?_
                      refine run_mixZ 12 [(true, 0), (true, 1), (true, 2), (true, 3), (true, 4), (true, 5), (true, 6), (true, 7), (true, 8), (true, 9), (true, 10), (true, 11), (false, 12)] H12 [3] mixed (by decide) (by kernel_rfl) ?_
                      rintro w13 hw13
                      have H13 := Hp.drew H12; rw [← hw13] at H13
                      refine mixz_p rfl ?_
                      refine mix1_val (fun wz hz => ex_move rfl) ?_
                      refine mixz_p rfl ?_
                      refine mix1_val (fun wz hz => ex_nilCheck rfl) ?_
                      refine mixz_p rfl ?_
                      refine mix1_val (fun wz hz => ex_fieldAddr fl31_0 rfl) ?_
                      refine mixz_p rfl ?_
                      refine mix1_val (fun wz hz => ex_load ty27 rfl (hz.cell (i := 0) rfl rfl)) ?_
                      refine nZ211 ?_
                      refine mixz_p rfl ?_
                      refine mix1_val (fun wz hz => ex_move rfl) ?_
                      refine mixz_p rfl ?_
                      refine mix1_val (fun wz hz => ex_move rfl) ?_
                      refine mixz_p rfl ?_
                      obtain ⟨pb, rfl⟩ := hA5.some_ (by omega)
                      refine mix1_val (fun wz hz => ex_idx Try.underlying22 ty3 rfl rfl rfl hx5 (Nat.mul_one _)) ?_
                      refine mixz_p rfl ?_
                      refine mix1_val (fun wz hz => ex_load ty3 rfl ((hA5.to0 (HB.all hz)).cells pb rfl i3 _ (i64s_get hx5))) ?_
                      refine nZ211 ?_
                      refine mixz_p rfl ?_
                      obtain ⟨u3, huu3⟩ := u64_nat xs[i3]
                      refine mix1_val (fun wz hz => ex_conv Try.underlying23 Try.underlying3 rfl huu3) ?_
                      refine mixz_p rfl ?_
                      refine mix1_val (fun wz hz => ex_rem rfl rfl (by omega) (tmodN u3 9)) ?_
                      have h9 : u3 % 9 < 9 := Nat.mod_lt _ (by decide)
                      generalize u3 % 9 = n9 at h9
                      refine mixz_p rfl ?_
                      refine mix1_val (fun wz hz => ex_conv Try.underlying3 Try.underlying23 rfl (IntWalk.i64_in _ (by omega))) ?_
                      refine mixz_p rfl ?_
                      refine mix1_val (fun wz hz => ex_add rfl rfl (IntWalk.i64_in _ (by omega))) ?_
                      refine nZ211 ?_
                      refine mixz_o rfl ?_
                      replace he : EOk w13 (md s2.m q6) D9 s2.k s2.K := he.keep0 (es := []) (by rw [‹w13 = _›]; exact Hp.drewW _)
                      have HB : Hp w0 w13 [] (eRows (md s2.m q6) D9 s2.k s2.K) := HB.all H13
                      refine ops_call (ex_call gf26 rfl) (arm_any (md s2.m q6).gd (md s2.m q6).gk (md s2.m q6).gw (md s2.m q6).cw (md s2.m q6).sp D9 _ HB.less.here he.d (1 + (n9 : Int)) (by omega) (by omega)) ?_
                      rintro r w14 ⟨hr, hp⟩
                      rw [hr]
                      obtain ⟨q7, he, Hd⟩ := he.disk (m := md s2.m q6) hp
                      obtain ⟨D10, hD10⟩ : ∃ D', (D9.arm (1 + (n9 : Int))).1 = D' := ⟨_, rfl⟩
                      rw [hD10] at he Hd
                      obtain ⟨hF3, hd3⟩ := hF3.arm hd3 (1 + (n9 : Int))
                      rw [hD10] at hF3 hd3
                      have HB : Hp w0 w14 [] (eRows (md s2.m q7) D10 s2.k s2.K) := HB.front Hd
                      have H14 := HB.here
                      refine ops_nil ?_
                      refine ⟨fun hne => absurd rfl hne, ?_⟩
                      refine nZ211 ?_
                      refine mixz_nil ?_
                      refine nR211 ?_
                      refine run_seq ?_
                      refine run_region ?_
                      refine ops_val (ex_move rfl) ?_
                      refine ops_val (ex_nilCheck rfl) ?_
                      refine ops_val (ex_fieldAddr fl31_0 rfl) ?_
                      refine ops_val (ex_load ty27 rfl (H14.cell (i := 3) rfl rfl)) ?_
                      refine nO211 ?_
                      have HB : Hp w0 w14 [] (eRows (md s2.m q7) D10 s2.k s2.K) := HB.all H14
                      refine ops_call (ex_call gf18 rfl) (openF_any (md s2.m q7) D10 s2.k s2.K 1024 sp0 W3 _ HB.less.here he (lt_rest HB) hF3 hd3 htd3 (by omega) (by omega)) ?_
                      rintro r w15 ⟨q8, W8, hr, he, _, Hc, _, _⟩
                      rw [hr]
                      have HB : Hp w0 w15 [] (eRows (md s2.m q8) D10 s2.k s2.K) := (HB.front Hc).pick [0, 1, 2, 6, 7] (by decide)
                      have H15 := HB.here
                      refine ops_val (ex_move rfl) ?_
                      refine ops_val (ex_extract rfl rfl) ?_
                      refine ops_val (ex_extract rfl rfl) ?_
                      refine nO211 ?_
                      refine ops_val (ex_assign rfl) ?_
                      refine ops_val (ex_assign rfl) ?_
                      refine ops_nil ?_
                      refine nR211 ?_
                      refine run_seq ?_
                      refine run_seq ?_
                      refine run_region ?_
                      refine ops_val (ex_move rfl) ?_
                      refine ops_false (ex_neq rfl rfl) (by decide) ?_
                      refine ops_val (ex_move rfl) ?_
                      refine nO211 ?_
                      refine ops_no rfl ?_
                      refine ops_no rfl ?_
                      refine ops_val (ex_pick_f rfl rfl) ?_
                      refine ops_val (ex_move rfl) ?_
                      refine nO211 ?_
                      refine ops_yes rfl ?_
                      refine ops_val (ex_move rfl) ?_
                      refine ops_yes rfl ?_
                      refine ops_true (ex_neq_nil_ptr Try.underlying28 rfl) (by simp) ?_
                      refine nO211 ?_
                      refine ops_yes rfl ?_
                      refine ops_val (ex_move rfl) ?_
                      refine ops_yes rfl ?_
                      refine ops_true (ex_eql rfl rfl) (by decide) ?_
                      refine nO211 ?_
                      refine ops_yes rfl ?_
                      refine ops_false (ex_neq_bool Try.underlying4 rfl rfl) (by simp) ?_
                      refine ops_val (ex_pick_f rfl rfl) ?_
                      refine ops_nil ?_
                      refine nR211 ?_
                      refine run_cond_false rfl ?_
                      refine run_skip ?_
                      refine run_region ?_
                      refine ops_val (ex_move rfl) ?_
                      refine ops_val (ex_nilCheck rfl) ?_
                      refine ops_val (ex_fieldAddr fl31_0 rfl) ?_
                      refine ops_val (ex_load ty27 rfl (H15.cell (i := 3) rfl rfl)) ?_
                      refine nO211 ?_
                      refine ops_val (ex_move rfl) ?_
                      have HB : Hp w0 w15 [] (eRows (md s2.m q8) D10 s2.k s2.K) := HB.all H15
                      refine ops_call (ex_call gf25 rfl) (crash_any (md s2.m q8).gd (md s2.m q8).gk (md s2.m q8).gw (md s2.m q8).cw (md s2.m q8).sp D10 _ HB.less.here he.d A4 ks c4 (hA4.to0 HB) (fun h0 p hp hx => old_not HB.less (ks_lt hA4 h0 hp) (fun hx => by cases hx) hx) (by rw [hF3.wait]; decide)) ?_
                      rintro r w16 ⟨hr, hp⟩
                      rw [hr]
                      obtain ⟨q9, he, Hd⟩ := he.disk (m := md s2.m q8) hp
                      obtain ⟨D11, hD11⟩ : ∃ D', D10.crash ks = D' := ⟨_, rfl⟩
                      rw [hD11] at he Hd
                      have hF3 := hF3.crash ks
                      rw [hD11] at hF3
                      have HB : Hp w0 w16 [] (eRows (md s2.m q9) D11 s2.k s2.K) := HB.front Hd
                      have H16 := HB.here
                      refine ops_nil ?_
                      refine nR211 ?_
                      refine run_nil (blk_normal ?_)
                      refine run_region ?_
                      refine ops_val (ex_move rfl) ?_
                      refine ops_val (ex_add rfl rfl (IntWalk.i64_in _ (by omega))) ?_
                      refine ops_val (ex_assign rfl) ?_
                      refine ops_nil ?_
                      refine nR211 ?_
                      refine run_nil (rnd_normal ?_)
                      exact ⟨5 - (i3 + 1), by omega, i3 + 1, _, q9, D11, rfl, (fs (fs (fs (fs (fs (fs (fn (fn (fn (fn (fn (fn (fn (fs (fs (fn (fn (fs (fn (fn (fn (fn (fn (fn (fn (fn (fn (fn (fn (fn (fn (fn (fn (fn (fn (fn (fn (fn (fn (fn (fn (fn (fn (fn (fn (fn (fn (fn (fn (fn (fn (fn (fn (fn (fn (fn (fn (fn (fn (fn (fn (fn (fn (fn (fn (fn (fn (fn (fn (fn (fn (fn (fn (fn (fn (fn (fn (fn (fn (fn (fn (fn (fn (fn (fn (fn (fn (fn (fn (fn (fn (fn (fn (fn (fn (fn (fn (fn (fn (fn (fn (fn (fn (fn (fn (fn (fn (fn (fn (fn (fn (fn (fn (fn (fn (fn (fn (fn (fn (fn (fn (fn (fn (fn (fn (fn (fn (fn (fn (fn (fn (fn (fn (fn (fn (fn (fn (fn (fn (fn (fn (fn (fn (fn (fn (fn (fn (fn (fn (fn (fn (fn (fn (fn (fn (fn (fn (fn (fn (fn (fn (fn (fn (fn (fn (fn (fn (fn (fn (fn (fn (fn (fn (fn (fn (fn (fn (fn (fn (fn (fn (fn (fn (fn (fn (fn (fn (fn (fn (fn (fn (fn (fn (fn (fn (fn (fn (fn (fn (fn (fn (fn (fn (fn (fn (fn (fn (fn (fn (fn (fn f0))))))))))))))))))))))))))))))))))))))))))))))))))))))))))))))))))))))))))))))))))))))))))))))))))))))))))))))))))))))))))))))))))))))))))))))))))))))))))))))))))))))))))))))))))))))))))))))))))))))))))))))))))), by omega, by omega, he, hF3, HB.all H16⟩
                    · skip
                      refine ops_val (ex_pick_t rfl rfl) ?_
                      refine ops_nil ?_
                      refine nR211 ?_
                      refine run_cond_false rfl ?_
                      refine run_exit ?_
                      refine rnd_exit ?_
                      refine blk_exit ?_
                      refine run_seq ?_
                      refine run_mixS 23 [(true, 0), (false, 1), (true, 2), (true, 3), (true, 4), (true, 5), (true, 8), (false, 6), (false, 7), (true, 9), (true, 10), (true, 11), (true, 12), (true, 13), (true, 14), (true, 17), (true, 18), (true, 19), (true, 20), (false, 15), (false, 16), (true, 21), (true, 22), (false, 23)] (fun wz => wz.cell? ⟨s2.k.gb, 4, none⟩ = some (.int .i64 (s2.K.safe : Int))) mixed (by kernel_rfl) ?_
                      rintro w12 hw12
                      have H12 := Hp.drew H11; rw [← hw12] at H12
                      refine ⟨(by first | exact H12.cell (i := 3) (o := 4) rfl rfl | (rw [← hks]; exact H12.cell (i := 3) (o := 4) rfl rfl)), ?_⟩
                      refine mixz_p rfl ?_
                      refine mix1_val (fun wz hz => ex_move rfl) ?_
                      refine mixz_o rfl ?_
                      have HB : Hp w0 w12 [] (eRows (md s2.m q5) D8 s2.k s2.K) := HB.all H12
                      replace he : EOk w12 (md s2.m q5) D8 s2.k s2.K := he.keep0 (es := []) (by rw [‹w12 = _›]; exact Hp.drewW _)
                      have hpre : s2.K.all.take s.K.all.length = s.K.all := har.pre
                      have hnx0 : s.K.all.length = W3.first + W3.recs.length := hag3.next
                      have hsf0 : s2.K.safe = s.K.all.length := har.safe
                      have hff0 : s2.K.first = nn := har.first
                      have hrcO : W3.recs = (s2.K.all.drop W3.first).take W3.recs.length := by
                        have h1 : W3.recs = s.K.all.drop W3.first := hag3.recs
                        have e : (s2.K.all.take s.K.all.length).drop W3.first = (s2.K.all.drop W3.first).take (s.K.all.length - W3.first) := List.drop_take ..
                        rw [hpre, ← h1, hnx0, Nat.add_sub_cancel_left] at e
                        exact e
                      have hlO := hnx2.1
                      have hlO : s.K.all.length ≤ s2.K.all.length := hlO
                      refine ops_call (ex_call gf29 rfl) (openB_any (md s2.m q5) D8 s2.k s2.K 1024 sp0 W3 _ HB.here he hF3 htd3 (by omega) (by omega) hrcO (by omega) (by omega) (by omega)) ?_
                      rintro r w13 ⟨hr, q10, D12, W12, k12, K12, hfO, hrO, hgO, hks, Hc⟩
                      rw [hr]
                      replace hks : K12.safe = s2.K.safe := by omega
                      have hlW : W12.recs.length = W3.recs.length := by rw [hrO]
                      have HB := (HB.all Hc).pick [2, 3, 4, 0, 1, 5, 6, 7] (by decide)
                      have H13 := HB.here
                      rw [← hgO]
                      refine ops_nil ?_
                      refine ⟨fun hne => (by first | exact H13.cell (i := 3) (o := 4) rfl rfl | (rw [← hks]; exact H13.cell (i := 3) (o := 4) rfl rfl)), ?_⟩
                      refine nZ211 ?_
                      refine mixz_p rfl ?_
                      refine mix1_val (fun wz hz => ex_move rfl) ?_
                      refine mixz_p rfl ?_
                      refine mix1_yes rfl ?_
                      refine mix1_val (fun wz hz => ex_move rfl) ?_
                      refine mixz_p rfl ?_
                      refine mix1_yes rfl ?_
                      refine mix1_val (fun wz hz => ex_nilCheck rfl) ?_
                      refine mixz_p rfl ?_
                      refine mix1_yes rfl ?_
                      refine mix1_val (fun wz hz => ex_fieldAddr fl31_1 rfl) ?_
                      refine nZ211 ?_
                      refine mixz_p rfl ?_
                      refine mix1_yes rfl ?_
                      refine mix1_val (fun wz hz => ex_move rfl) ?_
                      refine mixz_o rfl ?_
                      refine ops_yes rfl ?_
                      refine ops_val (ex_load ty28 rfl (H13.cell (i := 3) rfl rfl)) ?_
                      refine ops_nil ?_
                      refine ⟨fun hne => (by first | exact H13.cell (i := 3) (o := 4) rfl rfl | (rw [← hks]; exact H13.cell (i := 3) (o := 4) rfl rfl)), ?_⟩
                      refine nZ211 ?_
                      refine mixz_o rfl ?_
                      refine ops_yes rfl ?_
                      refine ops_call_eq (ex_call gf19 rfl) (first_p q10.gv (W12.first : Int) _ (H13.cell (i := 5) rfl rfl)) ?_
                      refine ops_nil ?_
                      refine ⟨fun hne => (by first | exact H13.cell (i := 3) (o := 4) rfl rfl | (rw [← hks]; exact H13.cell (i := 3) (o := 4) rfl rfl)), ?_⟩
                      refine nZ211 ?_
                      refine mixz_p rfl ?_
                      refine mix1_yes rfl ?_
                      refine mix1_true (fun wz hz => ex_eql rfl rfl) (by omega) ?_
                      refine mixz_p rfl ?_
                      refine mix1_val (fun wz hz => ex_pick_t rfl rfl) ?_
                      refine mixz_p rfl ?_
                      refine mix1_val (fun wz hz => ex_move rfl) ?_
                      refine mixz_p rfl ?_
                      refine mix1_yes rfl ?_
                      refine mix1_val (fun wz hz => ex_move rfl) ?_
                      refine nZ211 ?_
                      refine mixz_p rfl ?_
                      refine mix1_yes rfl ?_
                      refine mix1_val (fun wz hz => ex_nilCheck rfl) ?_
                      refine mixz_p rfl ?_
                      refine mix1_yes rfl ?_
                      refine mix1_val (fun wz hz => ex_fieldAddr fl31_1 rfl) ?_
                      refine mixz_p rfl ?_
                      refine mix1_yes rfl ?_
                      refine mix1_val (fun wz hz => ex_move rfl) ?_
                      refine mixz_p rfl ?_
                      refine mix1_yes rfl ?_
                      refine mix1_val (fun wz hz => ex_nilCheck rfl) ?_
                      refine nZ211 ?_
                      refine mixz_p rfl ?_
                      refine mix1_yes rfl ?_
                      refine mix1_val (fun wz hz => ex_fieldAddr fl31_4 rfl) ?_
                      refine mixz_p rfl ?_
                      refine mix1_yes rfl ?_
                      refine mix1_val (fun wz hz => ex_load ty3 rfl hz) ?_
                      refine mixz_o rfl ?_
                      refine ops_yes rfl ?_
                      refine ops_val (ex_load ty28 rfl (H13.cell (i := 3) rfl rfl)) ?_
                      refine ops_nil ?_
                      refine ⟨fun hne => (by first | exact H13.cell (i := 3) (o := 4) rfl rfl | (rw [← hks]; exact H13.cell (i := 3) (o := 4) rfl rfl)), ?_⟩
                      refine nZ211 ?_
                      refine mixz_o rfl ?_
                      refine ops_yes rfl ?_
                      refine ops_call_val (ex_call gf15 rfl) (next_any q10.gv W12.first W12.recs.length q10.cr (hd q10.gr) _ (H13.cell (i := 5) rfl rfl) (H13.cell (i := 5) rfl rfl) (by omega)) ?_
                      intro w14 Hd
                      have H14 := H13.callN Hd
                      refine ops_nil ?_
                      refine ⟨fun hne => (by first | exact H14.cell (i := 3) (o := 4) rfl rfl | (rw [← hks]; exact H14.cell (i := 3) (o := 4) rfl rfl)), ?_⟩
                      refine nZ211 ?_
                      refine mixz_p rfl ?_
                      refine mix1_yes rfl ?_
                      refine mix1_true (fun wz hz => ex_geq rfl rfl) (by omega) ?_
                      refine mixz_p rfl ?_
                      refine mix1_val (fun wz hz => ex_pick_t rfl rfl) ?_
                      refine mixz_o rfl ?_
                      refine ops_val (ex_assign rfl) ?_
                      refine ops_nil ?_
                      refine ⟨fun hne => absurd rfl hne, ?_⟩
                      refine nZ211 ?_
                      refine mixz_nil ?_
                      refine nR211 ?_
                      refine run_ret ?_
                      refine fin_ret1 rfl rfl ?_
                      exact ⟨rfl, (HB.all H14).noRows⟩
                  · skip
                    refine ops_val (ex_move rfl) ?_
                    refine nO211 ?_
                    refine ops_no rfl ?_
                    refine ops_no rfl ?_
                    refine ops_val (ex_pick_f rfl rfl) ?_
                    refine ops_nil ?_
                    refine nR211 ?_
                    refine run_cond_false rfl ?_
                    refine run_exit ?_
                    refine rnd_exit ?_
                    refine blk_exit ?_
                    refine run_seq ?_
                    refine run_mixS 23 [(true, 0), (false, 1), (true, 2), (true, 3), (true, 4), (true, 5), (true, 8), (false, 6), (false, 7), (true, 9), (true, 10), (true, 11), (true, 12), (true, 13), (true, 14), (true, 17), (true, 18), (true, 19), (true, 20), (false, 15), (false, 16), (true, 21), (true, 22), (false, 23)] (fun wz => wz.cell? ⟨s2.k.gb, 4, none⟩ = some (.int .i64 (s2.K.safe : Int))) mixed (by kernel_rfl) ?_
                    rintro w12 hw12
                    have H12 := Hp.drew H11; rw [← hw12] at H12
                    refine ⟨(by first | exact H12.cell (i := 3) (o := 4) rfl rfl | (rw [← hks]; exact H12.cell (i := 3) (o := 4) rfl rfl)), ?_⟩
                    refine mixz_p rfl ?_
                    refine mix1_val (fun wz hz => ex_move rfl) ?_
                    refine mixz_o rfl ?_
                    have HB : Hp w0 w12 [] (eRows (md s2.m q5) D8 s2.k s2.K) := HB.all H12
                    replace he : EOk w12 (md s2.m q5) D8 s2.k s2.K := he.keep0 (es := []) (by rw [‹w12 = _›]; exact Hp.drewW _)
                    have hpre : s2.K.all.take s.K.all.length = s.K.all := har.pre
                    have hnx0 : s.K.all.length = W3.first + W3.recs.length := hag3.next
                    have hsf0 : s2.K.safe = s.K.all.length := har.safe
                    have hff0 : s2.K.first = nn := har.first
                    have hrcO : W3.recs = (s2.K.all.drop W3.first).take W3.recs.length := by
                      have h1 : W3.recs = s.K.all.drop W3.first := hag3.recs
                      have e : (s2.K.all.take s.K.all.length).drop W3.first = (s2.K.all.drop W3.first).take (s.K.all.length - W3.first) := List.drop_take ..
                      rw [hpre, ← h1, hnx0, Nat.add_sub_cancel_left] at e
                      exact e
                    have hlO := hnx2.1
                    have hlO : s.K.all.length ≤ s2.K.all.length := hlO
                    refine ops_call (ex_call gf29 rfl) (openB_any (md s2.m q5) D8 s2.k s2.K 1024 sp0 W3 _ HB.here he hF3 htd3 (by omega) (by omega) hrcO (by omega) (by omega) (by omega)) ?_
                    rintro r w13 ⟨hr, q10, D12, W12, k12, K12, hfO, hrO, hgO, hks, Hc⟩
                    rw [hr]
                    replace hks : K12.safe = s2.K.safe := by omega
                    have hlW : W12.recs.length = W3.recs.length := by rw [hrO]
                    have HB := (HB.all Hc).pick [2, 3, 4, 0, 1, 5, 6, 7] (by decide)
                    have H13 := HB.here
                    rw [← hgO]
                    refine ops_nil ?_
                    refine ⟨fun hne => (by first | exact H13.cell (i := 3) (o := 4) rfl rfl | (rw [← hks]; exact H13.cell (i := 3) (o := 4) rfl rfl)), ?_⟩
                    refine nZ211 ?_
                    refine mixz_p rfl ?_
                    refine mix1_val (fun wz hz => ex_move rfl) ?_
                    refine mixz_p rfl ?_
                    refine mix1_yes rfl ?_
                    refine mix1_val (fun wz hz => ex_move rfl) ?_
                    refine mixz_p rfl ?_
                    refine mix1_yes rfl ?_
                    refine mix1_val (fun wz hz => ex_nilCheck rfl) ?_
                    refine mixz_p rfl ?_
                    refine mix1_yes rfl ?_
                    refine mix1_val (fun wz hz => ex_fieldAddr fl31_1 rfl) ?_
                    refine nZ211 ?_
                    refine mixz_p rfl ?_
                    refine mix1_yes rfl ?_
                    refine mix1_val (fun wz hz => ex_move rfl) ?_
                    refine mixz_o rfl ?_
                    refine ops_yes rfl ?_
                    refine ops_val (ex_load ty28 rfl (H13.cell (i := 3) rfl rfl)) ?_
                    refine ops_nil ?_
                    refine ⟨fun hne => (by first | exact H13.cell (i := 3) (o := 4) rfl rfl | (rw [← hks]; exact H13.cell (i := 3) (o := 4) rfl rfl)), ?_⟩
                    refine nZ211 ?_
                    refine mixz_o rfl ?_
                    refine ops_yes rfl ?_
                    refine ops_call_eq (ex_call gf19 rfl) (first_p q10.gv (W12.first : Int) _ (H13.cell (i := 5) rfl rfl)) ?_
                    refine ops_nil ?_
                    refine ⟨fun hne => (by first | exact H13.cell (i := 3) (o := 4) rfl rfl | (rw [← hks]; exact H13.cell (i := 3) (o := 4) rfl rfl)), ?_⟩
                    refine nZ211 ?_
                    refine mixz_p rfl ?_
                    refine mix1_yes rfl ?_
                    refine mix1_true (fun wz hz => ex_eql rfl rfl) (by omega) ?_
                    refine mixz_p rfl ?_
                    refine mix1_val (fun wz hz => ex_pick_t rfl rfl) ?_
                    refine mixz_p rfl ?_
                    refine mix1_val (fun wz hz => ex_move rfl) ?_
                    refine mixz_p rfl ?_
                    refine mix1_yes rfl ?_
                    refine mix1_val (fun wz hz => ex_move rfl) ?_
                    refine nZ211 ?_
                    refine mixz_p rfl ?_
                    refine mix1_yes rfl ?_
                    refine mix1_val (fun wz hz => ex_nilCheck rfl) ?_
                    refine mixz_p rfl ?_
                    refine mix1_yes rfl ?_
                    refine mix1_val (fun wz hz => ex_fieldAddr fl31_1 rfl) ?_
                    refine mixz_p rfl ?_
                    refine mix1_yes rfl ?_
                    refine mix1_val (fun wz hz => ex_move rfl) ?_
                    refine mixz_p rfl ?_
                    refine mix1_yes rfl ?_
                    refine mix1_val (fun wz hz => ex_nilCheck rfl) ?_
                    refine nZ211 ?_
                    refine mixz_p rfl ?_
                    refine mix1_yes rfl ?_
                    refine mix1_val (fun wz hz => ex_fieldAddr fl31_4 rfl) ?_
                    refine mixz_p rfl ?_
                    refine mix1_yes rfl ?_
                    refine mix1_val (fun wz hz => ex_load ty3 rfl hz) ?_
                    refine mixz_o rfl ?_
                    refine ops_yes rfl ?_
                    refine ops_val (ex_load ty28 rfl (H13.cell (i := 3) rfl rfl)) ?_
                    refine ops_nil ?_
                    refine ⟨fun hne => (by first | exact H13.cell (i := 3) (o := 4) rfl rfl | (rw [← hks]; exact H13.cell (i := 3) (o := 4) rfl rfl)), ?_⟩
                    refine nZ211 ?_
                    refine mixz_o rfl ?_
                    refine ops_yes rfl ?_
                    refine ops_call_val (ex_call gf15 rfl) (next_any q10.gv W12.first W12.recs.length q10.cr (hd q10.gr) _ (H13.cell (i := 5) rfl rfl) (H13.cell (i := 5) rfl rfl) (by omega)) ?_
                    intro w14 Hd
                    have H14 := H13.callN Hd
                    refine ops_nil ?_
                    refine ⟨fun hne => (by first | exact H14.cell (i := 3) (o := 4) rfl rfl | (rw [← hks]; exact H14.cell (i := 3) (o := 4) rfl rfl)), ?_⟩
                    refine nZ211 ?_
                    refine mixz_p rfl ?_
                    refine mix1_yes rfl ?_
                    refine mix1_true (fun wz hz => ex_geq rfl rfl) (by omega) ?_
                    refine mixz_p rfl ?_
                    refine mix1_val (fun wz hz => ex_pick_t rfl rfl) ?_
                    refine mixz_o rfl ?_
                    refine ops_val (ex_assign rfl) ?_
                    refine ops_nil ?_
                    refine ⟨fun hne => absurd rfl hne, ?_⟩
                    refine nZ211 ?_
                    refine mixz_nil ?_
                    refine nR211 ?_
                    refine run_ret ?_
                    refine fin_ret1 rfl rfl ?_
                    exact ⟨rfl, (HB.all H14).noRows⟩
              · skip
                refine ops_yes rfl ?_
                refine ops_val (ex_not rfl) ?_
                refine ops_val (ex_pick_t rfl rfl) ?_
                refine ops_nil ?_
                refine nR211 ?_
                refine run_cond_true rfl ?_
                refine run_skip ?_
                refine run_seq ?_
                refine run_block ?_
                refine run_seq ?_
                refine run_region ?_
                refine ops_val (ex_move rfl) ?_
                refine ops_val (ex_move rfl) ?_
                obtain ⟨pa, rfl⟩ := hA1.some_ (by omega)
                refine ops_val (ex_idx Try.underlying29 ty34 rfl rfl rfl hix (Nat.mul_one _)) ?_
                refine ops_val (ex_load ty34 rfl ((hA1.to0 (HB.all H9)).cells pa rfl i2 _ hzi)) ?_
                refine nO211 ?_
                refine ops_val (ex_len_slice Try.underlying34 rfl) ?_
                refine ops_test (ex_leq rfl rfl) (fun hp117 => ?_) (fun hp117 => ?_)
                · have h300 : bs1[i2].length ≤ 300 := by omega
                  refine ops_val (ex_move rfl) ?_
                  refine nO211 ?_
                  refine ops_yes rfl ?_
                  refine ops_val (ex_move rfl) ?_
                  refine ops_yes rfl ?_
                  refine ops_val (ex_move rfl) ?_
                  refine nO211 ?_
                  refine ops_yes rfl ?_
                  refine ops_val (ex_move rfl) ?_
                  refine ops_yes rfl ?_
                  refine ops_val (ex_idx Try.underlying29 ty34 rfl rfl rfl hix (Nat.mul_one _)) ?_
                  refine nO211 ?_
                  refine ops_yes rfl ?_
                  refine ops_val (ex_load ty34 rfl ((hA1.to0 (HB.all H9)).cells pa rfl i2 _ hzi)) ?_
                  refine ops_yes rfl ?_
                  have HB : Hp w0 w9 [] (s2.rows ++ []) := HB.all H9
                  obtain ⟨hlgU, hdeadU, hagU, _, htuU, hfiU⟩ := har.live hdn
                  refine ops_call (ex_call gf14 rfl) (appendB_any s2.m s2.D s2.W s2.k s2.K _ HB.less.here har.ok.less sp0 (by rw [hsz2]; exact hlgU) hdn hdeadU hagU (by omega) (by omega) (by omega) (by omega) Be bs1[i2] ce (hrd.to0 HB) (fun h0 p hp hx => old_not HB.less (rd_lt hrd h0 hp) (fun hx => by cases hx) hx) (by omega)) ?_
                  rintro r w10 ⟨hr1, D6, W6, K6, hab, hp⟩
                  rw [hr1]
                  obtain ⟨s3, hgb3, har, Hc⟩ := har.app hsz2 hdn hab hp
                  have HB : Hp w0 w10 [] (s3.rows ++ []) := HB.front Hc
                  have H10 := HB.here
                  rw [← hgb3]
                  refine nO211 ?_
                  refine ops_yes rfl ?_
                  refine ops_val (ex_not rfl) ?_
                  refine ops_val (ex_pick_t rfl rfl) ?_
                  refine ops_nil ?_
                  refine nR211 ?_
                  refine run_cond_false rfl ?_
                  refine run_skip ?_
                  refine run_nil (blk_normal ?_)
                  refine run_region ?_
                  refine ops_val (ex_move rfl) ?_
                  refine ops_val (ex_add rfl rfl (IntWalk.i64_in _ (by omega))) ?_
                  refine ops_val (ex_assign rfl) ?_
                  refine ops_nil ?_
                  refine nR211 ?_
                  refine run_nil (rnd_normal ?_)
                  exact ⟨20 - (i2 + 1), by omega, i2 + 1, _, s3, rfl, (fs (fs (fs (fs (fs (fs (fn (fn (fn (fn (fn (fn (fn (fs (fs (fn (fs (fn (fn (fn (fn (fn (fn (fn (fn (fn (fn (fn (fn (fn (fn (fn (fn (fn (fn (fn (fn (fn (fn (fn (fn (fn (fn (fn (fn (fn (fn (fn (fn (fn (fn (fn (fn (fn (fn (fn (fn (fn (fn (fn (fn (fn (fn (fn (fn (fn (fn (fn (fn (fn (fn (fn (fn (fn (fn (fn (fn (fn (fn (fn (fn (fn (fn (fn (fn (fn (fn (fn (fn (fn (fn (fn (fn (fn (fn (fn (fn (fn (fn (fn (fn (fn (fn (fn (fn (fn (fn (fn (fn (fn (fn (fn (fn (fn (fn (fn (fn (fn (fn (fn (fn (fn (fn (fn (fn (fn (fn (fn (fn (fn (fn (fn (fn (fn (fn (fn (fn (fn (fn (fn (fn (fn (fn (fn (fn (fn (fn (fn (fn (fn (fn (fn (fn (fn (fn (fn (fn (fn (fn (fn (fn (fn (fn (fn (fn (fn (fn (fn (fn (fn (fn (fn (fn (fn (fn (fn (fn (fn (fn (fn (fn (fn (fn (fn (fn (fn (fn (fn (fn (fn (fn (fn (fn (fn (fn (fn (fn (fn (fn (fn (fn (fn (fn (fn (fn (fn (fn (fn (fn (fn (fn f0))))))))))))))))))))))))))))))))))))))))))))))))))))))))))))))))))))))))))))))))))))))))))))))))))))))))))))))))))))))))))))))))))))))))))))))))))))))))))))))))))))))))))))))))))))))))))))))))))))))))))))))))))), by omega, by omega, rfl, har, HB⟩
                · skip
                  refine ops_val (ex_move rfl) ?_
                  refine nO211 ?_
                  refine ops_no rfl ?_
                  refine ops_no rfl ?_
                  refine nO211 ?_
                  refine ops_no rfl ?_
                  refine ops_no rfl ?_
                  refine nO211 ?_
                  refine ops_no rfl ?_
                  refine ops_no rfl ?_
                  refine nO211 ?_
                  refine ops_no rfl ?_
                  refine ops_val (ex_pick_f rfl rfl) ?_
                  refine ops_nil ?_
                  refine nR211 ?_
                  refine run_cond_false rfl ?_
                  refine run_skip ?_
                  refine run_nil (blk_normal ?_)
                  refine run_region ?_
                  refine ops_val (ex_move rfl) ?_
                  refine ops_val (ex_add rfl rfl (IntWalk.i64_in _ (by omega))) ?_
                  refine ops_val (ex_assign rfl) ?_
                  refine ops_nil ?_
                  refine nR211 ?_
                  refine run_nil (rnd_normal ?_)
                  exact ⟨20 - (i2 + 1), by omega, i2 + 1, _, s2, rfl, (fs (fs (fs (fs (fs (fs (fn (fn (fn (fn (fn (fn (fn (fs (fs (fn (fs (fn (fn (fn (fn (fn (fn (fn (fn (fn (fn (fn (fn (fn (fn (fn (fn (fn (fn (fn (fn (fn (fn (fn (fn (fn (fn (fn (fn (fn (fn (fn (fn (fn (fn (fn (fn (fn (fn (fn (fn (fn (fn (fn (fn (fn (fn (fn (fn (fn (fn (fn (fn (fn (fn (fn (fn (fn (fn (fn (fn (fn (fn (fn (fn (fn (fn (fn (fn (fn (fn (fn (fn (fn (fn (fn (fn (fn (fn (fn (fn (fn (fn (fn (fn (fn (fn (fn (fn (fn (fn (fn (fn (fn (fn (fn (fn (fn (fn (fn (fn (fn (fn (fn (fn (fn (fn (fn (fn (fn (fn (fn (fn (fn (fn (fn (fn (fn (fn (fn (fn (fn (fn (fn (fn (fn (fn (fn (fn (fn (fn (fn (fn (fn (fn (fn (fn (fn (fn (fn (fn (fn (fn (fn (fn (fn (fn (fn (fn (fn (fn (fn (fn (fn (fn (fn (fn (fn (fn (fn (fn (fn (fn (fn (fn (fn (fn (fn (fn (fn (fn (fn (fn (fn (fn (fn (fn (fn (fn (fn (fn (fn (fn (fn (fn (fn (fn (fn (fn (fn (fn (fn (fn (fn (fn f0))))))))))))))))))))))))))))))))))))))))))))))))))))))))))))))))))))))))))))))))))))))))))))))))))))))))))))))))))))))))))))))))))))))))))))))))))))))))))))))))))))))))))))))))))))))))))))))))))))))))))))))))))), by omega, by omega, rfl, { har with wait := by omega, next := ⟨hnx2.1, by omega⟩ }, HB.all H9⟩
            · skip
              refine ops_val (ex_pick_t rfl rfl) ?_
              refine ops_val (ex_move rfl) ?_
              refine nO211 ?_
              refine ops_no rfl ?_
              refine ops_no rfl ?_
              refine nO211 ?_
              refine ops_no rfl ?_
              refine ops_no rfl ?_
              refine nO211 ?_
              refine ops_no rfl ?_
              refine ops_no rfl ?_
              refine ops_val (ex_pick_f rfl rfl) ?_
              refine ops_nil ?_
              refine nR211 ?_
              refine run_cond_false rfl ?_
              refine run_exit ?_
              refine rnd_exit ?_
              refine blk_exit ?_
              refine run_seq ?_
              refine run_region ?_
              refine ops_val (ex_move rfl) ?_
              refine ops_val (ex_nilCheck rfl) ?_
              refine ops_val (ex_fieldAddr fl31_0 rfl) ?_
              refine ops_val (ex_load ty27 rfl (H9.cell (i := 6) rfl rfl)) ?_
              refine nO211 ?_
              refine ops_val (ex_move rfl) ?_
              have HB : Hp w0 w9 [] (s2.rows ++ []) := HB.all H9
              have HD : Hp w0 w9 [] (dRows s2.m.gd s2.m.gk s2.m.gw s2.m.cw s2.m.sp s2.D) := HB.less.less.less
              refine ops_call (ex_call gf25 rfl) (crash_any s2.m.gd s2.m.gk s2.m.gw s2.m.cw s2.m.sp s2.D _ HD.here har.ok.ok.d A4 ks c4 (hA4.to0 HB) (fun h0 p hp hx => old_not HD (ks_lt hA4 h0 hp) (fun hx => by cases hx) hx) (by omega)) ?_
              rintro r w10 ⟨hr, hp⟩
              rw [hr]
              have hF2 := hF1.fall har.kept har.fresh ks
              obtain ⟨q4, he, Hd⟩ := har.ok.bare.disk hp
              obtain ⟨D7, hD7⟩ : ∃ D', s2.D.crash ks = D' := ⟨_, rfl⟩
              rw [hD7] at he Hd hF2
              have HB : Hp w0 w10 [] (eRows (md s2.m q4) D7 s2.k s2.K) := (Hp.front3 (a := dRows s2.m.gd s2.m.gk s2.m.gw s2.m.cw s2.m.sp s2.D) (b := lRows s2.m s2.W) (d := kRows s2.m s2.k s2.K) (R := []) HB Hd).pick [0, 1, 2, 6, 7] (by decide)
              have H10 := HB.here
              refine ops_nil ?_
              refine nR211 ?_
              refine run_seq ?_
              refine run_seq ?_
              refine run_region ?_
              refine ops_val (ex_assign rfl) ?_
              refine ops_nil ?_
              refine nR211 ?_
              refine run_block ?_
              refine run_loop (fun n l w => ∃ (i3 : Nat) (y3 : Int) (q5 : Mw) (D8 : Dk), 5 - i3 = n ∧ Fits [some (.slice A bs.length c), some (.slice A1 bs1.length c1), some (.int .i64 a2), some (.int .i64 a3), some (.slice A4 ks.length c4), some (.slice A5 xs.length c5), none, none, none, none, none, none, none, some (.pointer (some ⟨s2.k.gb, 0, none⟩)), some (.int .i64 (nn : Int)), none, none, some (.int .i64 y3), none, none, none, none, none, none, none, none, none, none, none, none, none, none, none, none, none, none, none, none, none, none, none, none, none, none, none, none, none, none, none, none, none, none, none, none, none, none, none, none, none, none, none, none, none, none, none, none, none, none, none, none, none, none, none, none, none, none, none, none, none, none, none, none, none, none, none, none, none, none, none, none, none, none, none, none, none, none, none, none, none, none, none, none, none, none, none, none, none, none, none, none, none, none, none, none, none, none, none, none, none, none, none, none, none, none, none, none, none, none, none, none, none, none, none, none, none, none, none, none, none, none, none, none, none, none, none, none, none, none, none, none, none, none, none, none, none, none, none, none, none, none, none, none, none, none, none, none, none, none, none, none, none, none, none, none, none, none, none, none, none, none, none, none, none, none, none, none, none, none, none, none, none, none, none, none, none, none, none, none, none, none, none, none, none, none, none, none, none, none, none, none, none] l ∧ y3 = (i3 : Int) ∧ i3 ≤ 5 ∧ EOk w (md s2.m q5) D8 s2.k s2.K ∧ Fal D8 1024 W3 sp0 ∧ Hp w0 w [] (eRows (md s2.m q5) D8 s2.k s2.K)) (5) ?_ ?_
              · exact ⟨0, _, q4, D7, rfl, (fs (fs (fs (fs (fs (fs (fn (fn (fn (fn (fn (fn (fn (fs (fs (fn (fn (fs (fn (fn (fn (fn (fn (fn (fn (fn (fn (fn (fn (fn (fn (fn (fn (fn (fn (fn (fn (fn (fn (fn (fn (fn (fn (fn (fn (fn (fn (fn (fn (fn (fn (fn (fn (fn (fn (fn (fn (fn (fn (fn (fn (fn (fn (fn (fn (fn (fn (fn (fn (fn (fn (fn (fn (fn (fn (fn (fn (fn (fn (fn (fn (fn (fn (fn (fn (fn (fn (fn (fn (fn (fn (fn (fn (fn (fn (fn (fn (fn (fn (fn (fn (fn (fn (fn (fn (fn (fn (fn (fn (fn (fn (fn (fn (fn (fn (fn (fn (fn (fn (fn (fn (fn (fn (fn (fn (fn (fn (fn (fn (fn (fn (fn (fn (fn (fn (fn (fn (fn (fn (fn (fn (fn (fn (fn (fn (fn (fn (fn (fn (fn (fn (fn (fn (fn (fn (fn (fn (fn (fn (fn (fn (fn (fn (fn (fn (fn (fn (fn (fn (fn (fn (fn (fn (fn (fn (fn (fn (fn (fn (fn (fn (fn (fn (fn (fn (fn (fn (fn (fn (fn (fn (fn (fn (fn (fn (fn (fn (fn (fn (fn (fn (fn (fn (fn (fn (fn (fn (fn (fn (fn (fn f0))))))))))))))))))))))))))))))))))))))))))))))))))))))))))))))))))))))))))))))))))))))))))))))))))))))))))))))))))))))))))))))))))))))))))))))))))))))))))))))))))))))))))))))))))))))))))))))))))))))))))))))))))), rfl, Nat.zero_le _, he, hF2, HB.all H10⟩
              · rintro n l w11 ⟨i3, y3, q5, D8, rfl, hfit, rfl, hi3, he, hF3, H11⟩
                obtain ⟨j, rfl⟩ := hfit.open
                refine nR211 ?_
                clear hfit
                have HB := H11
                replace H11 := HB.here
                refine run_seq ?_
                refine run_seq ?_
                refine run_region ?_
                refine ops_val (ex_move rfl) ?_
                refine ops_val (ex_move rfl) ?_
                refine ops_val (ex_len_slice Try.underlying22 rfl) ?_
                refine ops_test (ex_lss rfl rfl) (fun hp136 => ?_) (fun hp136 => ?_)
                · have hx5 : i3 < xs.length := by omega
                  refine ops_val (ex_move rfl) ?_
                  refine nO211 ?_
                  refine ops_yes rfl ?_
                  refine ops_val (ex_move rfl) ?_
                  refine ops_yes rfl ?_
                  refine ops_test (ex_lss rfl rfl) (fun hp139 => ?_) (fun hp139 => ?_)
                  · have hm5 : i3 < 5 := by omega
                    refine ops_val (ex_pick_t rfl rfl) ?_
                    refine ops_nil ?_
                    refine nR211 ?_
                    refine run_cond_true rfl ?_
                    refine run_skip ?_
                    refine run_seq ?_
                    refine run_block ?_
                    refine run_seq ?_
                    refine run_region ?_
                    refine ops_val (ex_move rfl) ?_
                    refine ops_val (ex_nilCheck rfl) ?_
                    refine ops_val (ex_fieldAddr fl31_0 rfl) ?_
                    refine ops_val (ex_load ty27 rfl (H11.cell (i := 3) rfl rfl)) ?_
                    refine nO211 ?_
                    have HB : Hp w0 w11 [] (eRows (md s2.m q5) D8 s2.k s2.K) := HB.all H11
                    refine ops_call (ex_call gf28 rfl) (start_any (md s2.m q5).gd (md s2.m q5).gk (md s2.m q5).gw (md s2.m q5).cw (md s2.m q5).sp D8 _ HB.less.here he.d) ?_
                    rintro r w12 ⟨hr, hp⟩
                    rw [hr]
                    obtain ⟨q6, he, Hd⟩ := he.disk (m := md s2.m q5) hp
                    obtain ⟨D9, hD9⟩ : ∃ D', D8.start = D' := ⟨_, rfl⟩
                    rw [hD9] at he Hd
                    obtain ⟨hF3, hd3⟩ := hF3.start
                    rw [hD9] at hF3 hd3
                    have HB : Hp w0 w12 [] (eRows (md s2.m q6) D9 s2.k s2.K) := HB.front Hd
                    have H12 := HB.here
                    refine ops_nil ?_
                    refine nR211 ?_
                    refine run_seq ?_
                    refine run_mixZ 12 [(true, 0), (true, 1), (true, 2), (true, 3), (true, 4), (true, 5), (true, 6), (true, 7), (true, 8), (true, 9), (true, 10), (true, 11), (false, 12)] H12 [3] mixed (by decide) (by kernel_rfl) ?_
                    rintro w13 hw13
                    have H13 := Hp.drew H12; rw [← hw13] at H13
                    refine mixz_p rfl ?_
                    refine mix1_val (fun wz hz => ex_move rfl) ?_
                    refine mixz_p rfl ?_
                    refine mix1_val (fun wz hz => ex_nilCheck rfl) ?_
                    refine mixz_p rfl ?_
                    refine mix1_val (fun wz hz => ex_fieldAddr fl31_0 rfl) ?_
                    refine mixz_p rfl ?_
                    refine mix1_val (fun wz hz => ex_load ty27 rfl (hz.cell (i := 0) rfl rfl)) ?_
                    refine nZ211 ?_
                    refine mixz_p rfl ?_
                    refine mix1_val (fun wz hz => ex_move rfl) ?_
                    refine mixz_p rfl ?_
                    refine mix1_val (fun wz hz => ex_move rfl) ?_
                    refine mixz_p rfl ?_
                    obtain ⟨pb, rfl⟩ := hA5.some_ (by omega)
                    refine mix1_val (fun wz hz => ex_idx Try.underlying22 ty3 rfl rfl rfl hx5 (Nat.mul_one _)) ?_
                    refine mixz_p rfl ?_
                    refine mix1_val (fun wz hz => ex_load ty3 rfl ((hA5.to0 (HB.all hz)).cells pb rfl i3 _ (i64s_get hx5))) ?_
                    refine nZ211 ?_
                    refine mixz_p rfl ?_
                    obtain ⟨u3, huu3⟩ := u64_nat xs[i3]
                    refine mix1_val (fun wz hz => ex_conv Try.underlying23 Try.underlying3 rfl huu3) ?_
                    refine mixz_p rfl ?_
                    refine mix1_val (fun wz hz => ex_rem rfl rfl (by omega) (tmodN u3 9)) ?_
                    have h9 : u3 % 9 < 9 := Nat.mod_lt _ (by decide)
                    generalize u3 % 9 = n9 at h9
                    refine mixz_p rfl ?_
                    refine mix1_val (fun wz hz => ex_conv Try.underlying3 Try.underlying23 rfl (IntWalk.i64_in _ (by omega))) ?_
                    refine mixz_p rfl ?_
                    refine mix1_val (fun wz hz => ex_add rfl rfl (IntWalk.i64_in _ (by omega))) ?_
                    refine nZ211 ?_
                    refine mixz_o rfl ?_
                    replace he : EOk w13 (md s2.m q6) D9 s2.k s2.K := he.keep0 (es := []) (by rw [‹w13 = _›]; exact Hp.drewW _)
                    have HB : Hp w0 w13 [] (eRows (md s2.m q6) D9 s2.k s2.K) := HB.all H13
                    refine ops_call (ex_call gf26 rfl) (arm_any (md s2.m q6).gd (md s2.m q6).gk (md s2.m q6).gw (md s2.m q6).cw (md s2.m q6).sp D9 _ HB.less.here he.d (1 + (n9 : Int)) (by omega) (by omega)) ?_
                    rintro r w14 ⟨hr, hp⟩
                    rw [hr]
                    obtain ⟨q7, he, Hd⟩ := he.disk (m := md s2.m q6) hp
                    obtain ⟨D10, hD10⟩ : ∃ D', (D9.arm (1 + (n9 : Int))).1 = D' := ⟨_, rfl⟩
                    rw [hD10] at he Hd
                    obtain ⟨hF3, hd3⟩ := hF3.arm hd3 (1 + (n9 : Int))
                    rw [hD10] at hF3 hd3
                    have HB : Hp w0 w14 [] (eRows (md s2.m q7) D10 s2.k s2.K) := HB.front Hd
                    have H14 := HB.here
                    refine ops_nil ?_
                    refine ⟨fun hne => absurd rfl hne, ?_⟩
                    refine nZ211 ?_
                    refine mixz_nil ?_
                    refine nR211 ?_
                    refine run_seq ?_
                    refine run_region ?_
                    refine ops_val (ex_move rfl) ?_
                    refine ops_val (ex_nilCheck rfl) ?_
                    refine ops_val (ex_fieldAddr fl31_0 rfl) ?_
                    refine ops_val (ex_load ty27 rfl (H14.cell (i := 3) rfl rfl)) ?_
                    refine nO211 ?_
                    have HB : Hp w0 w14 [] (eRows (md s2.m q7) D10 s2.k s2.K) := HB.all H14
                    refine ops_call (ex_call gf18 rfl) (openF_any (md s2.m q7) D10 s2.k s2.K 1024 sp0 W3 _ HB.less.here he (lt_rest HB) hF3 hd3 htd3 (by omega) (by omega)) ?_
                    rintro r w15 ⟨q8, W8, hr, he, _, Hc, _, _⟩
                    rw [hr]
                    have HB : Hp w0 w15 [] (eRows (md s2.m q8) D10 s2.k s2.K) := (HB.front Hc).pick [0, 1, 2, 6, 7] (by decide)
                    have H15 := HB.here
                    refine ops_val (ex_move rfl) ?_
                    refine ops_val (ex_extract rfl rfl) ?_
                    refine ops_val (ex_extract rfl rfl) ?_
                    refine nO211 ?_
                    refine ops_val (ex_assign rfl) ?_
                    refine ops_val (ex_assign rfl) ?_
                    refine ops_nil ?_
                    refine nR211 ?_
                    refine run_seq ?_
                    refine run_seq ?_
                    refine run_region ?_
                    refine ops_val (ex_move rfl) ?_
                    refine ops_false (ex_neq rfl rfl) (by decide) ?_
                    refine ops_val (ex_move rfl) ?_
                    refine nO211 ?_
                    refine ops_no rfl ?_
                    refine ops_no rfl ?_
                    refine ops_val (ex_pick_f rfl rfl) ?_
                    refine ops_val (ex_move rfl) ?_
                    refine nO211 ?_
                    refine ops_yes rfl ?_
                    refine ops_val (ex_move rfl) ?_
                    refine ops_yes rfl ?_
                    refine ops_true (ex_neq_nil_ptr Try.underlying28 rfl) (by simp) ?_
                    refine nO211 ?_
                    refine ops_yes rfl ?_
                    refine ops_val (ex_move rfl) ?_
                    refine ops_yes rfl ?_
                    refine ops_true (ex_eql rfl rfl) (by decide) ?_
                    refine nO211 ?_
                    refine ops_yes rfl ?_
                    refine ops_false (ex_neq_bool Try.underlying4 rfl rfl) (by simp) ?_
                    refine ops_val (ex_pick_f rfl rfl) ?_
                    refine ops_nil ?_
                    refine nR211 ?_
                    refine run_cond_false rfl ?_
                    refine run_skip ?_
                    refine run_region ?_
                    refine ops_val (ex_move rfl) ?_
                    refine ops_val (ex_nilCheck rfl) ?_
                    refine ops_val (ex_fieldAddr fl31_0 rfl) ?_
                    refine ops_val (ex_load ty27 rfl (H15.cell (i := 3) rfl rfl)) ?_
                    refine nO211 ?_
                    refine ops_val (ex_move rfl) ?_
                    have HB : Hp w0 w15 [] (eRows (md s2.m q8) D10 s2.k s2.K) := HB.all H15
                    refine ops_call (ex_call gf25 rfl) (crash_any (md s2.m q8).gd (md s2.m q8).gk (md s2.m q8).gw (md s2.m q8).cw (md s2.m q8).sp D10 _ HB.less.here he.d A4 ks c4 (hA4.to0 HB) (fun h0 p hp hx => old_not HB.less (ks_lt hA4 h0 hp) (fun hx => by cases hx) hx) (by rw [hF3.wait]; decide)) ?_
                    rintro r w16 ⟨hr, hp⟩
                    rw [hr]
                    obtain ⟨q9, he, Hd⟩ := he.disk (m := md s2.m q8) hp
                    obtain ⟨D11, hD11⟩ : ∃ D', D10.crash ks = D' := ⟨_, rfl⟩
                    rw [hD11] at he Hd
                    have hF3 := hF3.crash ks
                    rw [hD11] at hF3
                    have HB : Hp w0 w16 [] (eRows (md s2.m q9) D11 s2.k s2.K) := HB.front Hd
                    have H16 := HB.here
                    refine ops_nil ?_
                    refine nR211 ?_
                    refine run_nil (blk_normal ?_)
                    refine run_region ?_
                    refine ops_val (ex_move rfl) ?_
                    refine ops_val (ex_add rfl rfl (IntWalk.i64_in _ (by omega))) ?_
                    refine ops_val (ex_assign rfl) ?_
                    refine ops_nil ?_
                    refine nR211 ?_
                    refine run_nil (rnd_normal ?_)
                    exact ⟨5 - (i3 + 1), by omega, i3 + 1, _, q9, D11, rfl, (fs (fs (fs (fs (fs (fs (fn (fn (fn (fn (fn (fn (fn (fs (fs (fn (fn (fs (fn (fn (fn (fn (fn (fn (fn (fn (fn (fn (fn (fn (fn (fn (fn (fn (fn (fn (fn (fn (fn (fn (fn (fn (fn (fn (fn (fn (fn (fn (fn (fn (fn (fn (fn (fn (fn (fn (fn (fn (fn (fn (fn (fn (fn (fn (fn (fn (fn (fn (fn (fn (fn (fn (fn (fn (fn (fn (fn (fn (fn (fn (fn (fn (fn (fn (fn (fn (fn (fn (fn (fn (fn (fn (fn (fn (fn (fn (fn (fn (fn (fn (fn (fn (fn (fn (fn (fn (fn (fn (fn (fn (fn (fn (fn (fn (fn (fn (fn (fn (fn (fn (fn (fn (fn (fn (fn (fn (fn (fn (fn (fn (fn (fn (fn (fn (fn (fn (fn (fn (fn (fn (fn (fn (fn (fn (fn (fn (fn (fn (fn (fn (fn (fn (fn (fn (fn (fn (fn (fn (fn (fn (fn (fn (fn (fn (fn (fn (fn (fn (fn (fn (fn (fn (fn (fn (fn (fn (fn (fn (fn (fn (fn (fn (fn (fn (fn (fn (fn (fn (fn (fn (fn (fn (fn (fn (fn (fn (fn (fn (fn (fn (fn (fn (fn (fn (fn (fn (fn (fn (fn (fn (fn f0))))))))))))))))))))))))))))))))))))))))))))))))))))))))))))))))))))))))))))))))))))))))))))))))))))))))))))))))))))))))))))))))))))))))))))))))))))))))))))))))))))))))))))))))))))))))))))))))))))))))))))))))))), by omega, by omega, he, hF3, HB.all H16⟩
                  · skip
                    refine ops_val (ex_pick_t rfl rfl) ?_
                    refine ops_nil ?_
                    refine nR211 ?_
                    refine run_cond_false rfl ?_
                    refine run_exit ?_
                    refine rnd_exit ?_
                    refine blk_exit ?_
                    refine run_seq ?_
                    refine run_mixS 23 [(true, 0), (false, 1), (true, 2), (true, 3), (true, 4), (true, 5), (true, 8), (false, 6), (false, 7), (true, 9), (true, 10), (true, 11), (true, 12), (true, 13), (true, 14), (true, 17), (true, 18), (true, 19), (true, 20), (false, 15), (false, 16), (true, 21), (true, 22), (false, 23)] (fun wz => wz.cell? ⟨s2.k.gb, 4, none⟩ = some (.int .i64 (s2.K.safe : Int))) mixed (by kernel_rfl) ?_
                    rintro w12 hw12
                    have H12 := Hp.drew H11; rw [← hw12] at H12
                    refine ⟨(by first | exact H12.cell (i := 3) (o := 4) rfl rfl | (rw [← hks]; exact H12.cell (i := 3) (o := 4) rfl rfl)), ?_⟩
                    refine mixz_p rfl ?_
                    refine mix1_val (fun wz hz => ex_move rfl) ?_
                    refine mixz_o rfl ?_
                    have HB : Hp w0 w12 [] (eRows (md s2.m q5) D8 s2.k s2.K) := HB.all H12
                    replace he : EOk w12 (md s2.m q5) D8 s2.k s2.K := he.keep0 (es := []) (by rw [‹w12 = _›]; exact Hp.drewW _)
                    have hpre : s2.K.all.take s.K.all.length = s.K.all := har.pre
                    have hnx0 : s.K.all.length = W3.first + W3.recs.length := hag3.next
                    have hsf0 : s2.K.safe = s.K.all.length := har.safe
                    have hff0 : s2.K.first = nn := har.first
                    have hrcO : W3.recs = (s2.K.all.drop W3.first).take W3.recs.length := by
                      have h1 : W3.recs = s.K.all.drop W3.first := hag3.recs
                      have e : (s2.K.all.take s.K.all.length).drop W3.first = (s2.K.all.drop W3.first).take (s.K.all.length - W3.first) := List.drop_take ..
                      rw [hpre, ← h1, hnx0, Nat.add_sub_cancel_left] at e
                      exact e
                    have hlO := hnx2.1
                    have hlO : s.K.all.length ≤ s2.K.all.length := hlO
                    refine ops_call (ex_call gf29 rfl) (openB_any (md s2.m q5) D8 s2.k s2.K 1024 sp0 W3 _ HB.here he hF3 htd3 (by omega) (by omega) hrcO (by omega) (by omega) (by omega)) ?_
                    rintro r w13 ⟨hr, q10, D12, W12, k12, K12, hfO, hrO, hgO, hks, Hc⟩
                    rw [hr]
                    replace hks : K12.safe = s2.K.safe := by omega
                    have hlW : W12.recs.length = W3.recs.length := by rw [hrO]
                    have HB := (HB.all Hc).pick [2, 3, 4, 0, 1, 5, 6, 7] (by decide)
                    have H13 := HB.here
                    rw [← hgO]
                    refine ops_nil ?_
                    refine ⟨fun hne => (by first | exact H13.cell (i := 3) (o := 4) rfl rfl | (rw [← hks]; exact H13.cell (i := 3) (o := 4) rfl rfl)), ?_⟩
                    refine nZ211 ?_
                    refine mixz_p rfl ?_
                    refine mix1_val (fun wz hz => ex_move rfl) ?_
                    refine mixz_p rfl ?_
                    refine mix1_yes rfl ?_
                    refine mix1_val (fun wz hz => ex_move rfl) ?_
                    refine mixz_p rfl ?_
                    refine mix1_yes rfl ?_
                    refine mix1_val (fun wz hz => ex_nilCheck rfl) ?_
                    refine mixz_p rfl ?_
                    refine mix1_yes rfl ?_
                    refine mix1_val (fun wz hz => ex_fieldAddr fl31_1 rfl) ?_
                    refine nZ211 ?_
                    refine mixz_p rfl ?_
                    refine mix1_yes rfl ?_
                    refine mix1_val (fun wz hz => ex_move rfl) ?_
                    refine mixz_o rfl ?_
                    refine ops_yes rfl ?_
                    refine ops_val (ex_load ty28 rfl (H13.cell (i := 3) rfl rfl)) ?_
                    refine ops_nil ?_
                    refine ⟨fun hne => (by first | exact H13.cell (i := 3) (o := 4) rfl rfl | (rw [← hks]; exact H13.cell (i := 3) (o := 4) rfl rfl)), ?_⟩
                    refine nZ211 ?_
                    refine mixz_o rfl ?_
                    refine ops_yes rfl ?_
                    refine ops_call_eq (ex_call gf19 rfl) (first_p q10.gv (W12.first : Int) _ (H13.cell (i := 5) rfl rfl)) ?_
                    refine ops_nil ?_
                    refine ⟨fun hne => (by first | exact H13.cell (i := 3) (o := 4) rfl rfl | (rw [← hks]; exact H13.cell (i := 3) (o := 4) rfl rfl)), ?_⟩
                    refine nZ211 ?_
                    refine mixz_p rfl ?_
                    refine mix1_yes rfl ?_
                    refine mix1_true (fun wz hz => ex_eql rfl rfl) (by omega) ?_
                    refine mixz_p rfl ?_
                    refine mix1_val (fun wz hz => ex_pick_t rfl rfl) ?_
                    refine mixz_p rfl ?_
                    refine mix1_val (fun wz hz => ex_move rfl) ?_
                    refine mixz_p rfl ?_
                    refine mix1_yes rfl ?_
                    refine mix1_val (fun wz hz => ex_move rfl) ?_
                    refine nZ211 ?_
                    refine mixz_p rfl ?_
                    refine mix1_yes rfl ?_
                    refine mix1_val (fun wz hz => ex_nilCheck rfl) ?_
                    refine mixz_p rfl ?_
                    refine mix1_yes rfl ?_
                    refine mix1_val (fun wz hz => ex_fieldAddr fl31_1 rfl) ?_
                    refine mixz_p rfl ?_
                    refine mix1_yes rfl ?_
                    refine mix1_val (fun wz hz => ex_move rfl) ?_
                    refine mixz_p rfl ?_
                    refine mix1_yes rfl ?_
                    refine mix1_val (fun wz hz => ex_nilCheck rfl) ?_
                    refine nZ211 ?_
                    refine mixz_p rfl ?_
                    refine mix1_yes rfl ?_
                    refine mix1_val (fun wz hz => ex_fieldAddr fl31_4 rfl) ?_
                    refine mixz_p rfl ?_
                    refine mix1_yes rfl ?_
                    refine mix1_val (fun wz hz => ex_load ty3 rfl hz) ?_
                    refine mixz_o rfl ?_
                    refine ops_yes rfl ?_
                    refine ops_val (ex_load ty28 rfl (H13.cell (i := 3) rfl rfl)) ?_
                    refine ops_nil ?_
                    refine ⟨fun hne => (by first | exact H13.cell (i := 3) (o := 4) rfl rfl | (rw [← hks]; exact H13.cell (i := 3) (o := 4) rfl rfl)), ?_⟩
                    refine nZ211 ?_
                    refine mixz_o rfl ?_
                    refine ops_yes rfl ?_
                    refine ops_call_val (ex_call gf15 rfl) (next_any q10.gv W12.first W12.recs.length q10.cr (hd q10.gr) _ (H13.cell (i := 5) rfl rfl) (H13.cell (i := 5) rfl rfl) (by omega)) ?_
                    intro w14 Hd
                    have H14 := H13.callN Hd
                    refine ops_nil ?_
                    refine ⟨fun hne => (by first | exact H14.cell (i := 3) (o := 4) rfl rfl | (rw [← hks]; exact H14.cell (i := 3) (o := 4) rfl rfl)), ?_⟩
                    refine nZ211 ?_
                    refine mixz_p rfl ?_
                    refine mix1_yes rfl ?_
                    refine mix1_true (fun wz hz => ex_geq rfl rfl) (by omega) ?_
                    refine mixz_p rfl ?_
                    refine mix1_val (fun wz hz => ex_pick_t rfl rfl) ?_
                    refine mixz_o rfl ?_
                    refine ops_val (ex_assign rfl) ?_
                    refine ops_nil ?_
                    refine ⟨fun hne => absurd rfl hne, ?_⟩
                    refine nZ211 ?_
                    refine mixz_nil ?_
                    refine nR211 ?_
                    refine run_ret ?_
                    refine fin_ret1 rfl rfl ?_
                    exact ⟨rfl, (HB.all H14).noRows⟩
                · skip
                  refine ops_val (ex_move rfl) ?_
                  refine nO211 ?_
                  refine ops_no rfl ?_
                  refine ops_no rfl ?_
                  refine ops_val (ex_pick_f rfl rfl) ?_
                  refine ops_nil ?_
                  refine nR211 ?_
                  refine run_cond_false rfl ?_
                  refine run_exit ?_
                  refine rnd_exit ?_
                  refine blk_exit ?_
                  refine run_seq ?_
                  refine run_mixS 23 [(true, 0), (false, 1), (true, 2), (true, 3), (true, 4), (true, 5), (true, 8), (false, 6), (false, 7), (true, 9), (true, 10), (true, 11), (true, 12), (true, 13), (true, 14), (true, 17), (true, 18), (true, 19), (true, 20), (false, 15), (false, 16), (true, 21), (true, 22), (false, 23)] (fun wz => wz.cell? ⟨s2.k.gb, 4, none⟩ = some (.int .i64 (s2.K.safe : Int))) mixed (by kernel_rfl) ?_
                  rintro w12 hw12
                  have H12 := Hp.drew H11; rw [← hw12] at H12
                  refine ⟨(by first | exact H12.cell (i := 3) (o := 4) rfl rfl | (rw [← hks]; exact H12.cell (i := 3) (o := 4) rfl rfl)), ?_⟩
                  refine mixz_p rfl ?_
                  refine mix1_val (fun wz hz => ex_move rfl) ?_
                  refine mixz_o rfl ?_
                  have HB : Hp w0 w12 [] (eRows (md s2.m q5) D8 s2.k s2.K) := HB.all H12
                  replace he : EOk w12 (md s2.m q5) D8 s2.k s2.K := he.keep0 (es := []) (by rw [‹w12 = _›]; exact Hp.drewW _)
                  have hpre : s2.K.all.take s.K.all.length = s.K.all := har.pre
                  have hnx0 : s.K.all.length = W3.first + W3.recs.length := hag3.next
                  have hsf0 : s2.K.safe = s.K.all.length := har.safe
                  have hff0 : s2.K.first = nn := har.first
                  have hrcO : W3.recs = (s2.K.all.drop W3.first).take W3.recs.length := by
                    have h1 : W3.recs = s.K.all.drop W3.first := hag3.recs
                    have e : (s2.K.all.take s.K.all.length).drop W3.first = (s2.K.all.drop W3.first).take (s.K.all.length - W3.first) := List.drop_take ..
                    rw [hpre, ← h1, hnx0, Nat.add_sub_cancel_left] at e
                    exact e
                  have hlO := hnx2.1
                  have hlO : s.K.all.length ≤ s2.K.all.length := hlO
                  refine ops_call (ex_call gf29 rfl) (openB_any (md s2.m q5) D8 s2.k s2.K 1024 sp0 W3 _ HB.here he hF3 htd3 (by omega) (by omega) hrcO (by omega) (by omega) (by omega)) ?_
                  rintro r w13 ⟨hr, q10, D12, W12, k12, K12, hfO, hrO, hgO, hks, Hc⟩
                  rw [hr]
                  replace hks : K12.safe = s2.K.safe := by omega
                  have hlW : W12.recs.length = W3.recs.length := by rw [hrO]
                  have HB := (HB.all Hc).pick [2, 3, 4, 0, 1, 5, 6, 7] (by decide)
                  have H13 := HB.here
                  rw [← hgO]
                  refine ops_nil ?_
                  refine ⟨fun hne => (by first | exact H13.cell (i := 3) (o := 4) rfl rfl | (rw [← hks]; exact H13.cell (i := 3) (o := 4) rfl rfl)), ?_⟩
                  refine nZ211 ?_
                  refine mixz_p rfl ?_
                  refine mix1_val (fun wz hz => ex_move rfl) ?_
                  refine mixz_p rfl ?_
                  refine mix1_yes rfl ?_
                  refine mix1_val (fun wz hz => ex_move rfl) ?_
                  refine mixz_p rfl ?_
                  refine mix1_yes rfl ?_
                  refine mix1_val (fun wz hz => ex_nilCheck rfl) ?_
                  refine mixz_p rfl ?_
                  refine mix1_yes rfl ?_
                  refine mix1_val (fun wz hz => ex_fieldAddr fl31_1 rfl) ?_
                  refine nZ211 ?_
                  refine mixz_p rfl ?_
                  refine mix1_yes rfl ?_
                  refine mix1_val (fun wz hz => ex_move rfl) ?_
                  refine mixz_o rfl ?_
                  refine ops_yes rfl ?_
                  refine ops_val (ex_load ty28 rfl (H13.cell (i := 3) rfl rfl)) ?_
                  refine ops_nil ?_
                  refine ⟨fun hne => (by first | exact H13.cell (i := 3) (o := 4) rfl rfl | (rw [← hks]; exact H13.cell (i := 3) (o := 4) rfl rfl)), ?_⟩
                  refine nZ211 ?_
                  refine mixz_o rfl ?_
                  refine ops_yes rfl ?_
                  refine ops_call_eq (ex_call gf19 rfl) (first_p q10.gv (W12.first : Int) _ (H13.cell (i := 5) rfl rfl)) ?_
                  refine ops_nil ?_
                  refine ⟨fun hne => (by first | exact H13.cell (i := 3) (o := 4) rfl rfl | (rw [← hks]; exact H13.cell (i := 3) (o := 4) rfl rfl)), ?_⟩
                  refine nZ211 ?_
                  refine mixz_p rfl ?_
                  refine mix1_yes rfl ?_
                  refine mix1_true (fun wz hz => ex_eql rfl rfl) (by omega) ?_
                  refine mixz_p rfl ?_
                  refine mix1_val (fun wz hz => ex_pick_t rfl rfl) ?_
                  refine mixz_p rfl ?_
                  refine mix1_val (fun wz hz => ex_move rfl) ?_
                  refine mixz_p rfl ?_
                  refine mix1_yes rfl ?_
                  refine mix1_val (fun wz hz => ex_move rfl) ?_
                  refine nZ211 ?_
                  refine mixz_p rfl ?_
                  refine mix1_yes rfl ?_
                  refine mix1_val (fun wz hz => ex_nilCheck rfl) ?_
                  refine mixz_p rfl ?_
                  refine mix1_yes rfl ?_
                  refine mix1_val (fun wz hz => ex_fieldAddr fl31_1 rfl) ?_
                  refine mixz_p rfl ?_
                  refine mix1_yes rfl ?_
                  refine mix1_val (fun wz hz => ex_move rfl) ?_
                  refine mixz_p rfl ?_
                  refine mix1_yes rfl ?_
                  refine mix1_val (fun wz hz => ex_nilCheck rfl) ?_
                  refine nZ211 ?_
                  refine mixz_p rfl ?_
                  refine mix1_yes rfl ?_
                  refine mix1_val (fun wz hz => ex_fieldAddr fl31_4 rfl) ?_
                  refine mixz_p rfl ?_
                  refine mix1_yes rfl ?_
                  refine mix1_val (fun wz hz => ex_load ty3 rfl hz) ?_
                  refine mixz_o rfl ?_
                  refine ops_yes rfl ?_
                  refine ops_val (ex_load ty28 rfl (H13.cell (i := 3) rfl rfl)) ?_
                  refine ops_nil ?_
                  refine ⟨fun hne => (by first | exact H13.cell (i := 3) (o := 4) rfl rfl | (rw [← hks]; exact H13.cell (i := 3) (o := 4) rfl rfl)), ?_⟩
                  refine nZ211 ?_
                  refine mixz_o rfl ?_
                  refine ops_yes rfl ?_
                  refine ops_call_val (ex_call gf15 rfl) (next_any q10.gv W12.first W12.recs.length q10.cr (hd q10.gr) _ (H13.cell (i := 5) rfl rfl) (H13.cell (i := 5) rfl rfl) (by omega)) ?_
                  intro w14 Hd
                  have H14 := H13.callN Hd
                  refine ops_nil ?_
                  refine ⟨fun hne => (by first | exact H14.cell (i := 3) (o := 4) rfl rfl | (rw [← hks]; exact H14.cell (i := 3) (o := 4) rfl rfl)), ?_⟩
                  refine nZ211 ?_
                  refine mixz_p rfl ?_
                  refine mix1_yes rfl ?_
                  refine mix1_true (fun wz hz => ex_geq rfl rfl) (by omega) ?_
                  refine mixz_p rfl ?_
                  refine mix1_val (fun wz hz => ex_pick_t rfl rfl) ?_
                  refine mixz_o rfl ?_
                  refine ops_val (ex_assign rfl) ?_
                  refine ops_nil ?_
                  refine ⟨fun hne => absurd rfl hne, ?_⟩
                  refine nZ211 ?_
                  refine mixz_nil ?_
                  refine nR211 ?_
                  refine run_ret ?_
                  refine fin_ret1 rfl rfl ?_
                  exact ⟨rfl, (HB.all H14).noRows⟩
          · skip
            refine ops_val (ex_move rfl) ?_
            refine nO211 ?_
            refine ops_no rfl ?_
            refine ops_no rfl ?_
            refine ops_val (ex_pick_f rfl rfl) ?_
            refine ops_val (ex_move rfl) ?_
            refine nO211 ?_
            refine ops_no rfl ?_
            refine ops_no rfl ?_
            refine nO211 ?_
            refine ops_no rfl ?_
            refine ops_no rfl ?_
            refine nO211 ?_
            refine ops_no rfl ?_
            refine ops_no rfl ?_
            refine ops_val (ex_pick_f rfl rfl) ?_
            refine ops_nil ?_
            refine nR211 ?_
            refine run_cond_false rfl ?_
            refine run_exit ?_
            refine rnd_exit ?_
            refine blk_exit ?_
            refine run_seq ?_
            refine run_region ?_
            refine ops_val (ex_move rfl) ?_
            refine ops_val (ex_nilCheck rfl) ?_
            refine ops_val (ex_fieldAddr fl31_0 rfl) ?_
            refine ops_val (ex_load ty27 rfl (H9.cell (i := 6) rfl rfl)) ?_
            refine nO211 ?_
            refine ops_val (ex_move rfl) ?_
            have HB : Hp w0 w9 [] (s2.rows ++ []) := HB.all H9
            have HD : Hp w0 w9 [] (dRows s2.m.gd s2.m.gk s2.m.gw s2.m.cw s2.m.sp s2.D) := HB.less.less.less
            refine ops_call (ex_call gf25 rfl) (crash_any s2.m.gd s2.m.gk s2.m.gw s2.m.cw s2.m.sp s2.D _ HD.here har.ok.ok.d A4 ks c4 (hA4.to0 HB) (fun h0 p hp hx => old_not HD (ks_lt hA4 h0 hp) (fun hx => by cases hx) hx) (by omega)) ?_
            rintro r w10 ⟨hr, hp⟩
            rw [hr]
            have hF2 := hF1.fall har.kept har.fresh ks
            obtain ⟨q4, he, Hd⟩ := har.ok.bare.disk hp
            obtain ⟨D7, hD7⟩ : ∃ D', s2.D.crash ks = D' := ⟨_, rfl⟩
            rw [hD7] at he Hd hF2
            have HB : Hp w0 w10 [] (eRows (md s2.m q4) D7 s2.k s2.K) := (Hp.front3 (a := dRows s2.m.gd s2.m.gk s2.m.gw s2.m.cw s2.m.sp s2.D) (b := lRows s2.m s2.W) (d := kRows s2.m s2.k s2.K) (R := []) HB Hd).pick [0, 1, 2, 6, 7] (by decide)
            have H10 := HB.here
            refine ops_nil ?_
            refine nR211 ?_
            refine run_seq ?_
            refine run_seq ?_
            refine run_region ?_
            refine ops_val (ex_assign rfl) ?_
            refine ops_nil ?_
            refine nR211 ?_
            refine run_block ?_
            refine run_loop (fun n l w => ∃ (i3 : Nat) (y3 : Int) (q5 : Mw) (D8 : Dk), 5 - i3 = n ∧ Fits [some (.slice A bs.length c), some (.slice A1 bs1.length c1), some (.int .i64 a2), some (.int .i64 a3), some (.slice A4 ks.length c4), some (.slice A5 xs.length c5), none, none, none, none, none, none, none, some (.pointer (some ⟨s2.k.gb, 0, none⟩)), some (.int .i64 (nn : Int)), none, none, some (.int .i64 y3), none, none, none, none, none, none, none, none, none, none, none, none, none, none, none, none, none, none, none, none, none, none, none, none, none, none, none, none, none, none, none, none, none, none, none, none, none, none, none, none, none, none, none, none, none, none, none, none, none, none, none, none, none, none, none, none, none, none, none, none, none, none, none, none, none, none, none, none, none, none, none, none, none, none, none, none, none, none, none, none, none, none, none, none, none, none, none, none, none, none, none, none, none, none, none, none, none, none, none, none, none, none, none, none, none, none, none, none, none, none, none, none, none, none, none, none, none, none, none, none, none, none, none, none, none, none, none, none, none, none, none, none, none, none, none, none, none, none, none, none, none, none, none, none, none, none, none, none, none, none, none, none, none, none, none, none, none, none, none, none, none, none, none, none, none, none, none, none, none, none, none, none, none, none, none, none, none, none, none, none, none, none, none, none, none, none, none, none, none, none, none, none, none] l ∧ y3 = (i3 : Int) ∧ i3 ≤ 5 ∧ EOk w (md s2.m q5) D8 s2.k s2.K ∧ Fal D8 1024 W3 sp0 ∧ Hp w0 w [] (eRows (md s2.m q5) D8 s2.k s2.K)) (5) ?_ ?_
            · exact ⟨0, _, q4, D7, rfl, (fs (fs (fs (fs (fs (fs (fn (fn (fn (fn (fn (fn (fn (fs (fs (fn (fn (fs (fn (fn (fn (fn (fn (fn (fn (fn (fn (fn (fn (fn (fn (fn (fn (fn (fn (fn (fn (fn (fn (fn (fn (fn (fn (fn (fn (fn (fn (fn (fn (fn (fn (fn (fn (fn (fn (fn (fn (fn (fn (fn (fn (fn (fn (fn (fn (fn (fn (fn (fn (fn (fn (fn (fn (fn (fn (fn (fn (fn (fn (fn (fn (fn (fn (fn (fn (fn (fn (fn (fn (fn (fn (fn (fn (fn (fn (fn (fn (fn (fn (fn (fn (fn (fn (fn (fn (fn (fn (fn (fn (fn (fn (fn (fn (fn (fn (fn (fn (fn (fn (fn (fn (fn (fn (fn (fn (fn (fn (fn (fn (fn (fn (fn (fn (fn (fn (fn (fn (fn (fn (fn (fn (fn (fn (fn (fn (fn (fn (fn (fn (fn (fn (fn (fn (fn (fn (fn (fn (fn (fn (fn (fn (fn (fn (fn (fn (fn (fn (fn (fn (fn (fn (fn (fn (fn (fn (fn (fn (fn (fn (fn (fn (fn (fn (fn (fn (fn (fn (fn (fn (fn (fn (fn (fn (fn (fn (fn (fn (fn (fn (fn (fn (fn (fn (fn (fn (fn (fn (fn (fn (fn (fn f0))))))))))))))))))))))))))))))))))))))))))))))))))))))))))))))))))))))))))))))))))))))))))))))))))))))))))))))))))))))))))))))))))))))))))))))))))))))))))))))))))))))))))))))))))))))))))))))))))))))))))))))))))), rfl, Nat.zero_le _, he, hF2, HB.all H10⟩
            · rintro n l w11 ⟨i3, y3, q5, D8, rfl, hfit, rfl, hi3, he, hF3, H11⟩
              obtain ⟨j, rfl⟩ := hfit.open
              refine nR211 ?_
              clear hfit
              have HB := H11
              replace H11 := HB.here
              refine run_seq ?_
              refine run_seq ?_
              refine run_region ?_
              refine ops_val (ex_move rfl) ?_
              refine ops_val (ex_move rfl) ?_
              refine ops_val (ex_len_slice Try.underlying22 rfl) ?_
              refine ops_test (ex_lss rfl rfl) (fun hp136 => ?_) (fun hp136 => ?_)
              · have hx5 : i3 < xs.length := by omega
                refine ops_val (ex_move rfl) ?_
                refine nO211 ?_
                refine ops_yes rfl ?_
                refine ops_val (ex_move rfl) ?_
                refine ops_yes rfl ?_
                refine ops_test (ex_lss rfl rfl) (fun hp139 => ?_) (fun hp139 => ?_)
                · have hm5 : i3 < 5 := by omega
                  refine ops_val (ex_pick_t rfl rfl) ?_
                  refine ops_nil ?_
                  refine nR211 ?_
                  refine run_cond_true rfl ?_
                  refine run_skip ?_
                  refine run_seq ?_
                  refine run_block ?_
                  refine run_seq ?_
                  refine run_region ?_
                  refine ops_val (ex_move rfl) ?_
                  refine ops_val (ex_nilCheck rfl) ?_
                  refine ops_val (ex_fieldAddr fl31_0 rfl) ?_
                  refine ops_val (ex_load ty27 rfl (H11.cell (i := 3) rfl rfl)) ?_
                  refine nO211 ?_
                  have HB : Hp w0 w11 [] (eRows (md s2.m q5) D8 s2.k s2.K) := HB.all H11
                  refine ops_call (ex_call gf28 rfl) (start_any (md s2.m q5).gd (md s2.m q5).gk (md s2.m q5).gw (md s2.m q5).cw (md s2.m q5).sp D8 _ HB.less.here he.d) ?_
                  rintro r w12 ⟨hr, hp⟩
                  rw [hr]
                  obtain ⟨q6, he, Hd⟩ := he.disk (m := md s2.m q5) hp
                  obtain ⟨D9, hD9⟩ : ∃ D', D8.start = D' := ⟨_, rfl⟩
                  rw [hD9] at he Hd
                  obtain ⟨hF3, hd3⟩ := hF3.start
                  rw [hD9] at hF3 hd3
                  have HB : Hp w0 w12 [] (eRows (md s2.m q6) D9 s2.k s2.K) := HB.front Hd
                  have H12 := HB.here
                  refine ops_nil ?_
                  refine nR211 ?_
                  refine run_seq ?_
                  refine run_mixZ 12 [(true, 0), (true, 1), (true, 2), (true, 3), (true, 4), (true, 5), (true, 6), (true, 7), (true, 8), (true, 9), (true, 10), (true, 11), (false, 12)] H12 [3] mixed (by decide) (by kernel_rfl) ?_
                  rintro w13 hw13
                  have H13 := Hp.drew H12; rw [← hw13] at H13
                  refine mixz_p rfl ?_
                  refine mix1_val (fun wz hz => ex_move rfl) ?_
                  refine mixz_p rfl ?_
                  refine mix1_val (fun wz hz => ex_nilCheck rfl) ?_
                  refine mixz_p rfl ?_
                  refine mix1_val (fun wz hz => ex_fieldAddr fl31_0 rfl) ?_
                  refine mixz_p rfl ?_
                  refine mix1_val (fun wz hz => ex_load ty27 rfl (hz.cell (i := 0) rfl rfl)) ?_
                  refine nZ211 ?_
                  refine mixz_p rfl ?_
                  refine mix1_val (fun wz hz => ex_move rfl) ?_
                  refine mixz_p rfl ?_
                  refine mix1_val (fun wz hz => ex_move rfl) ?_
                  refine mixz_p rfl ?_
                  obtain ⟨pb, rfl⟩ := hA5.some_ (by omega)
                  refine mix1_val (fun wz hz => ex_idx Try.underlying22 ty3 rfl rfl rfl hx5 (Nat.mul_one _)) ?_
                  refine mixz_p rfl ?_
                  refine mix1_val (fun wz hz => ex_load ty3 rfl ((hA5.to0 (HB.all hz)).cells pb rfl i3 _ (i64s_get hx5))) ?_
                  refine nZ211 ?_
                  refine mixz_p rfl ?_
                  obtain ⟨u3, huu3⟩ := u64_nat xs[i3]
                  refine mix1_val (fun wz hz => ex_conv Try.underlying23 Try.underlying3 rfl huu3) ?_
                  refine mixz_p rfl ?_
                  refine mix1_val (fun wz hz => ex_rem rfl rfl (by omega) (tmodN u3 9)) ?_
                  have h9 : u3 % 9 < 9 := Nat.mod_lt _ (by decide)
                  generalize u3 % 9 = n9 at h9
                  refine mixz_p rfl ?_
                  refine mix1_val (fun wz hz => ex_conv Try.underlying3 Try.underlying23 rfl (IntWalk.i64_in _ (by omega))) ?_
                  refine mixz_p rfl ?_
                  refine mix1_val (fun wz hz => ex_add rfl rfl (IntWalk.i64_in _ (by omega))) ?_
                  refine nZ211 ?_
                  refine mixz_o rfl ?_
                  replace he : EOk w13 (md s2.m q6) D9 s2.k s2.K := he.keep0 (es := []) (by rw [‹w13 = _›]; exact Hp.drewW _)
                  have HB : Hp w0 w13 [] (eRows (md s2.m q6) D9 s2.k s2.K) := HB.all H13
                  refine ops_call (ex_call gf26 rfl) (arm_any (md s2.m q6).gd (md s2.m q6).gk (md s2.m q6).gw (md s2.m q6).cw (md s2.m q6).sp D9 _ HB.less.here he.d (1 + (n9 : Int)) (by omega) (by omega)) ?_
                  rintro r w14 ⟨hr, hp⟩
                  rw [hr]
                  obtain ⟨q7, he, Hd⟩ := he.disk (m := md s2.m q6) hp
                  obtain ⟨D10, hD10⟩ : ∃ D', (D9.arm (1 + (n9 : Int))).1 = D' := ⟨_, rfl⟩
                  rw [hD10] at he Hd
                  obtain ⟨hF3, hd3⟩ := hF3.arm hd3 (1 + (n9 : Int))
                  rw [hD10] at hF3 hd3
                  have HB : Hp w0 w14 [] (eRows (md s2.m q7) D10 s2.k s2.K) := HB.front Hd
                  have H14 := HB.here
                  refine ops_nil ?_
                  refine ⟨fun hne => absurd rfl hne, ?_⟩
                  refine nZ211 ?_
                  refine mixz_nil ?_
                  refine nR211 ?_
                  refine run_seq ?_
                  refine run_region ?_
                  refine ops_val (ex_move rfl) ?_
                  refine ops_val (ex_nilCheck rfl) ?_
                  refine ops_val (ex_fieldAddr fl31_0 rfl) ?_
                  refine ops_val (ex_load ty27 rfl (H14.cell (i := 3) rfl rfl)) ?_
                  refine nO211 ?_
                  have HB : Hp w0 w14 [] (eRows (md s2.m q7) D10 s2.k s2.K) := HB.all H14
                  refine ops_call (ex_call gf18 rfl) (openF_any (md s2.m q7) D10 s2.k s2.K 1024 sp0 W3 _ HB.less.here he (lt_rest HB) hF3 hd3 htd3 (by omega) (by omega)) ?_
                  rintro r w15 ⟨q8, W8, hr, he, _, Hc, _, _⟩
                  rw [hr]
                  have HB : Hp w0 w15 [] (eRows (md s2.m q8) D10 s2.k s2.K) := (HB.front Hc).pick [0, 1, 2, 6, 7] (by decide)
                  have H15 := HB.here
                  refine ops_val (ex_move rfl) ?_
                  refine ops_val (ex_extract rfl rfl) ?_
                  refine ops_val (ex_extract rfl rfl) ?_
                  refine nO211 ?_
                  refine ops_val (ex_assign rfl) ?_
                  refine ops_val (ex_assign rfl) ?_
                  refine ops_nil ?_
                  refine nR211 ?_
                  refine run_seq ?_
                  refine run_seq ?_
                  refine run_region ?_
                  refine ops_val (ex_move rfl) ?_
                  refine ops_false (ex_neq rfl rfl) (by decide) ?_
                  refine ops_val (ex_move rfl) ?_
                  refine nO211 ?_
                  refine ops_no rfl ?_
                  refine ops_no rfl ?_
                  refine ops_val (ex_pick_f rfl rfl) ?_
                  refine ops_val (ex_move rfl) ?_
                  refine nO211 ?_
                  refine ops_yes rfl ?_
                  refine ops_val (ex_move rfl) ?_
                  refine ops_yes rfl ?_
                  refine ops_true (ex_neq_nil_ptr Try.underlying28 rfl) (by simp) ?_
                  refine nO211 ?_
                  refine ops_yes rfl ?_
                  refine ops_val (ex_move rfl) ?_
                  refine ops_yes rfl ?_
                  refine ops_true (ex_eql rfl rfl) (by decide) ?_
                  refine nO211 ?_
                  refine ops_yes rfl ?_
                  refine ops_false (ex_neq_bool Try.underlying4 rfl rfl) (by simp) ?_
                  refine ops_val (ex_pick_f rfl rfl) ?_
                  refine ops_nil ?_
                  refine nR211 ?_
                  refine run_cond_false rfl ?_
                  refine run_skip ?_
                  refine run_region ?_
                  refine ops_val (ex_move rfl) ?_
                  refine ops_val (ex_nilCheck rfl) ?_
                  refine ops_val (ex_fieldAddr fl31_0 rfl) ?_
                  refine ops_val (ex_load ty27 rfl (H15.cell (i := 3) rfl rfl)) ?_
                  refine nO211 ?_
                  refine ops_val (ex_move rfl) ?_
                  have HB : Hp w0 w15 [] (eRows (md s2.m q8) D10 s2.k s2.K) := HB.all H15
                  refine ops_call (ex_call gf25 rfl) (crash_any (md s2.m q8).gd (md s2.m q8).gk (md s2.m q8).gw (md s2.m q8).cw (md s2.m q8).sp D10 _ HB.less.here he.d A4 ks c4 (hA4.to0 HB) (fun h0 p hp hx => old_not HB.less (ks_lt hA4 h0 hp) (fun hx => by cases hx) hx) (by rw [hF3.wait]; decide)) ?_
                  rintro r w16 ⟨hr, hp⟩
                  rw [hr]
                  obtain ⟨q9, he, Hd⟩ := he.disk (m := md s2.m q8) hp
                  obtain ⟨D11, hD11⟩ : ∃ D', D10.crash ks = D' := ⟨_, rfl⟩
                  rw [hD11] at he Hd
                  have hF3 := hF3.crash ks
                  rw [hD11] at hF3
                  have HB : Hp w0 w16 [] (eRows (md s2.m q9) D11 s2.k s2.K) := HB.front Hd
                  have H16 := HB.here
                  refine ops_nil ?_
                  refine nR211 ?_
                  refine run_nil (blk_normal ?_)
                  refine run_region ?_
                  refine ops_val (ex_move rfl) ?_
                  refine ops_val (ex_add rfl rfl (IntWalk.i64_in _ (by omega))) ?_
                  refine ops_val (ex_assign rfl) ?_
                  refine ops_nil ?_
                  refine nR211 ?_
                  refine run_nil (rnd_normal ?_)
                  exact ⟨5 - (i3 + 1), by omega, i3 + 1, _, q9, D11, rfl, (fs (fs (fs (fs (fs (fs (fn (fn (fn (fn (fn (fn (fn (fs (fs (fn (fn (fs (fn (fn (fn (fn (fn (fn (fn (fn (fn (fn (fn (fn (fn (fn (fn (fn (fn (fn (fn (fn (fn (fn (fn (fn (fn (fn (fn (fn (fn (fn (fn (fn (fn (fn (fn (fn (fn (fn (fn (fn (fn (fn (fn (fn (fn (fn (fn (fn (fn (fn (fn (fn (fn (fn (fn (fn (fn (fn (fn (fn (fn (fn (fn (fn (fn (fn (fn (fn (fn (fn (fn (fn (fn (fn (fn (fn (fn (fn (fn (fn (fn (fn (fn (fn (fn (fn (fn (fn (fn (fn (fn (fn (fn (fn (fn (fn (fn (fn (fn (fn (fn (fn (fn (fn (fn (fn (fn (fn (fn (fn (fn (fn (fn (fn (fn (fn (fn (fn (fn (fn (fn (fn (fn (fn (fn (fn (fn (fn (fn (fn (fn (fn (fn (fn (fn (fn (fn (fn (fn (fn (fn (fn (fn (fn (fn (fn (fn (fn (fn (fn (fn (fn (fn (fn (fn (fn (fn (fn (fn (fn (fn (fn (fn (fn (fn (fn (fn (fn (fn (fn (fn (fn (fn (fn (fn (fn (fn (fn (fn (fn (fn (fn (fn (fn (fn (fn (fn (fn (fn (fn (fn (fn (fn f0))))))))))))))))))))))))))))))))))))))))))))))))))))))))))))))))))))))))))))))))))))))))))))))))))))))))))))))))))))))))))))))))))))))))))))))))))))))))))))))))))))))))))))))))))))))))))))))))))))))))))))))))))), by omega, by omega, he, hF3, HB.all H16⟩
                · skip
                  refine ops_val (ex_pick_t rfl rfl) ?_
                  refine ops_nil ?_
                  refine nR211 ?_
                  refine run_cond_false rfl ?_
                  refine run_exit ?_
                  refine rnd_exit ?_
                  refine blk_exit ?_
                  refine run_seq ?_
                  refine run_mixS 23 [(true, 0), (false, 1), (true, 2), (true, 3), (true, 4), (true, 5), (true, 8), (false, 6), (false, 7), (true, 9), (true, 10), (true, 11), (true, 12), (true, 13), (true, 14), (true, 17), (true, 18), (true, 19), (true, 20), (false, 15), (false, 16), (true, 21), (true, 22), (false, 23)] (fun wz => wz.cell? ⟨s2.k.gb, 4, none⟩ = some (.int .i64 (s2.K.safe : Int))) mixed (by kernel_rfl) ?_
                  rintro w12 hw12
                  have H12 := Hp.drew H11; rw [← hw12] at H12
                  refine ⟨(by first | exact H12.cell (i := 3) (o := 4) rfl rfl | (rw [← hks]; exact H12.cell (i := 3) (o := 4) rfl rfl)), ?_⟩
                  refine mixz_p rfl ?_
                  refine mix1_val (fun wz hz => ex_move rfl) ?_
                  refine mixz_o rfl ?_
                  have HB : Hp w0 w12 [] (eRows (md s2.m q5) D8 s2.k s2.K) := HB.all H12
                  replace he : EOk w12 (md s2.m q5) D8 s2.k s2.K := he.keep0 (es := []) (by rw [‹w12 = _›]; exact Hp.drewW _)
                  have hpre : s2.K.all.take s.K.all.length = s.K.all := har.pre
                  have hnx0 : s.K.all.length = W3.first + W3.recs.length := hag3.next
                  have hsf0 : s2.K.safe = s.K.all.length := har.safe
                  have hff0 : s2.K.first = nn := har.first
                  have hrcO : W3.recs = (s2.K.all.drop W3.first).take W3.recs.length := by
                    have h1 : W3.recs = s.K.all.drop W3.first := hag3.recs
                    have e : (s2.K.all.take s.K.all.length).drop W3.first = (s2.K.all.drop W3.first).take (s.K.all.length - W3.first) := List.drop_take ..
                    rw [hpre, ← h1, hnx0, Nat.add_sub_cancel_left] at e
                    exact e
                  have hlO := hnx2.1
                  have hlO : s.K.all.length ≤ s2.K.all.length := hlO
                  refine ops_call (ex_call gf29 rfl) (openB_any (md s2.m q5) D8 s2.k s2.K 1024 sp0 W3 _ HB.here he hF3 htd3 (by omega) (by omega) hrcO (by omega) (by omega) (by omega)) ?_
                  rintro r w13 ⟨hr, q10, D12, W12, k12, K12, hfO, hrO, hgO, hks, Hc⟩
                  rw [hr]
                  replace hks : K12.safe = s2.K.safe := by omega
                  have hlW : W12.recs.length = W3.recs.length := by rw [hrO]
                  have HB := (HB.all Hc).pick [2, 3, 4, 0, 1, 5, 6, 7] (by decide)
                  have H13 := HB.here
                  rw [← hgO]
                  refine ops_nil ?_
                  refine ⟨fun hne => (by first | exact H13.cell (i := 3) (o := 4) rfl rfl | (rw [← hks]; exact H13.cell (i := 3) (o := 4) rfl rfl)), ?_⟩
                  refine nZ211 ?_
                  refine mixz_p rfl ?_
                  refine mix1_val (fun wz hz => ex_move rfl) ?_
                  refine mixz_p rfl ?_
                  refine mix1_yes rfl ?_
                  refine mix1_val (fun wz hz => ex_move rfl) ?_
                  refine mixz_p rfl ?_
                  refine mix1_yes rfl ?_
                  refine mix1_val (fun wz hz => ex_nilCheck rfl) ?_
                  refine mixz_p rfl ?_
                  refine mix1_yes rfl ?_
                  refine mix1_val (fun wz hz => ex_fieldAddr fl31_1 rfl) ?_
                  refine nZ211 ?_
                  refine mixz_p rfl ?_
                  refine mix1_yes rfl ?_
                  refine mix1_val (fun wz hz => ex_move rfl) ?_
                  refine mixz_o rfl ?_
                  refine ops_yes rfl ?_
                  refine ops_val (ex_load ty28 rfl (H13.cell (i := 3) rfl rfl)) ?_
                  refine ops_nil ?_
                  refine ⟨fun hne => (by first | exact H13.cell (i := 3) (o := 4) rfl rfl | (rw [← hks]; exact H13.cell (i := 3) (o := 4) rfl rfl)), ?_⟩
                  refine nZ211 ?_
                  refine mixz_o rfl ?_
                  refine ops_yes rfl ?_
                  refine ops_call_eq (ex_call gf19 rfl) (first_p q10.gv (W12.first : Int) _ (H13.cell (i := 5) rfl rfl)) ?_
                  refine ops_nil ?_
                  refine ⟨fun hne => (by first | exact H13.cell (i := 3) (o := 4) rfl rfl | (rw [← hks]; exact H13.cell (i := 3) (o := 4) rfl rfl)), ?_⟩
                  refine nZ211 ?_
                  refine mixz_p rfl ?_
                  refine mix1_yes rfl ?_
                  refine mix1_true (fun wz hz => ex_eql rfl rfl) (by omega) ?_
                  refine mixz_p rfl ?_
                  refine mix1_val (fun wz hz => ex_pick_t rfl rfl) ?_
                  refine mixz_p rfl ?_
                  refine mix1_val (fun wz hz => ex_move rfl) ?_
                  refine mixz_p rfl ?_
                  refine mix1_yes rfl ?_
                  refine mix1_val (fun wz hz => ex_move rfl) ?_
                  refine nZ211 ?_
                  refine mixz_p rfl ?_
                  refine mix1_yes rfl ?_
                  refine mix1_val (fun wz hz => ex_nilCheck rfl) ?_
                  refine mixz_p rfl ?_
                  refine mix1_yes rfl ?_
                  refine mix1_val (fun wz hz => ex_fieldAddr fl31_1 rfl) ?_
                  refine mixz_p rfl ?_
                  refine mix1_yes rfl ?_
                  refine mix1_val (fun wz hz => ex_move rfl) ?_
                  refine mixz_p rfl ?_
                  refine mix1_yes rfl ?_
                  refine mix1_val (fun wz hz => ex_nilCheck rfl) ?_
                  refine nZ211 ?_
                  refine mixz_p rfl ?_
                  refine mix1_yes rfl ?_
                  refine mix1_val (fun wz hz => ex_fieldAddr fl31_4 rfl) ?_
                  refine mixz_p rfl ?_
                  refine mix1_yes rfl ?_
                  refine mix1_val (fun wz hz => ex_load ty3 rfl hz) ?_
                  refine mixz_o rfl ?_
                  refine ops_yes rfl ?_
                  refine ops_val (ex_load ty28 rfl (H13.cell (i := 3) rfl rfl)) ?_
                  refine ops_nil ?_
                  refine ⟨fun hne => (by first | exact H13.cell (i := 3) (o := 4) rfl rfl | (rw [← hks]; exact H13.cell (i := 3) (o := 4) rfl rfl)), ?_⟩
                  refine nZ211 ?_
                  refine mixz_o rfl ?_
                  refine ops_yes rfl ?_
                  refine ops_call_val (ex_call gf15 rfl) (next_any q10.gv W12.first W12.recs.length q10.cr (hd q10.gr) _ (H13.cell (i := 5) rfl rfl) (H13.cell (i := 5) rfl rfl) (by omega)) ?_
                  intro w14 Hd
                  have H14 := H13.callN Hd
                  refine ops_nil ?_
                  refine ⟨fun hne => (by first | exact H14.cell (i := 3) (o := 4) rfl rfl | (rw [← hks]; exact H14.cell (i := 3) (o := 4) rfl rfl)), ?_⟩
                  refine nZ211 ?_
                  refine mixz_p rfl ?_
                  refine mix1_yes rfl ?_
                  refine mix1_true (fun wz hz => ex_geq rfl rfl) (by omega) ?_
                  refine mixz_p rfl ?_
                  refine mix1_val (fun wz hz => ex_pick_t rfl rfl) ?_
                  refine mixz_o rfl ?_
                  refine ops_val (ex_assign rfl) ?_
                  refine ops_nil ?_
                  refine ⟨fun hne => absurd rfl hne, ?_⟩
                  refine nZ211 ?_
                  refine mixz_nil ?_
                  refine nR211 ?_
                  refine run_ret ?_
                  refine fin_ret1 rfl rfl ?_
                  exact ⟨rfl, (HB.all H14).noRows⟩
              · skip
                refine ops_val (ex_move rfl) ?_
                refine nO211 ?_
                refine ops_no rfl ?_
                refine ops_no rfl ?_
                refine ops_val (ex_pick_f rfl rfl) ?_
                refine ops_nil ?_
                refine nR211 ?_
                refine run_cond_false rfl ?_
                refine run_exit ?_
                refine rnd_exit ?_
                refine blk_exit ?_
                refine run_seq ?_
                refine run_mixS 23 [(true, 0), (false, 1), (true, 2), (true, 3), (true, 4), (true, 5), (true, 8), (false, 6), (false, 7), (true, 9), (true, 10), (true, 11), (true, 12), (true, 13), (true, 14), (true, 17), (true, 18), (true, 19), (true, 20), (false, 15), (false, 16), (true, 21), (true, 22), (false, 23)] (fun wz => wz.cell? ⟨s2.k.gb, 4, none⟩ = some (.int .i64 (s2.K.safe : Int))) mixed (by kernel_rfl) ?_
                rintro w12 hw12
                have H12 := Hp.drew H11; rw [← hw12] at H12
                refine ⟨(by first | exact H12.cell (i := 3) (o := 4) rfl rfl | (rw [← hks]; exact H12.cell (i := 3) (o := 4) rfl rfl)), ?_⟩
                refine mixz_p rfl ?_
                refine mix1_val (fun wz hz => ex_move rfl) ?_
                refine mixz_o rfl ?_
                have HB : Hp w0 w12 [] (eRows (md s2.m q5) D8 s2.k s2.K) := HB.all H12
                replace he : EOk w12 (md s2.m q5) D8 s2.k s2.K := he.keep0 (es := []) (by rw [‹w12 = _›]; exact Hp.drewW _)
                have hpre : s2.K.all.take s.K.all.length = s.K.all := har.pre
                have hnx0 : s.K.all.length = W3.first + W3.recs.length := hag3.next
                have hsf0 : s2.K.safe = s.K.all.length := har.safe
                have hff0 : s2.K.first = nn := har.first
                have hrcO : W3.recs = (s2.K.all.drop W3.first).take W3.recs.length := by
                  have h1 : W3.recs = s.K.all.drop W3.first := hag3.recs
                  have e : (s2.K.all.take s.K.all.length).drop W3.first = (s2.K.all.drop W3.first).take (s.K.all.length - W3.first) := List.drop_take ..
                  rw [hpre, ← h1, hnx0, Nat.add_sub_cancel_left] at e
                  exact e
                have hlO := hnx2.1
                have hlO : s.K.all.length ≤ s2.K.all.length := hlO
                refine ops_call (ex_call gf29 rfl) (openB_any (md s2.m q5) D8 s2.k s2.K 1024 sp0 W3 _ HB.here he hF3 htd3 (by omega) (by omega) hrcO (by omega) (by omega) (by omega)) ?_
                rintro r w13 ⟨hr, q10, D12, W12, k12, K12, hfO, hrO, hgO, hks, Hc⟩
                rw [hr]
                replace hks : K12.safe = s2.K.safe := by omega
                have hlW : W12.recs.length = W3.recs.length := by rw [hrO]
                have HB := (HB.all Hc).pick [2, 3, 4, 0, 1, 5, 6, 7] (by decide)
                have H13 := HB.here
                rw [← hgO]
                refine ops_nil ?_
                refine ⟨fun hne => (by first | exact H13.cell (i := 3) (o := 4) rfl rfl | (rw [← hks]; exact H13.cell (i := 3) (o := 4) rfl rfl)), ?_⟩
                refine nZ211 ?_
                refine mixz_p rfl ?_
                refine mix1_val (fun wz hz => ex_move rfl) ?_
                refine mixz_p rfl ?_
                refine mix1_yes rfl ?_
                refine mix1_val (fun wz hz => ex_move rfl) ?_
                refine mixz_p rfl ?_
                refine mix1_yes rfl ?_
                refine mix1_val (fun wz hz => ex_nilCheck rfl) ?_
                refine mixz_p rfl ?_
                refine mix1_yes rfl ?_
                refine mix1_val (fun wz hz => ex_fieldAddr fl31_1 rfl) ?_
                refine nZ211 ?_
                refine mixz_p rfl ?_
                refine mix1_yes rfl ?_
                refine mix1_val (fun wz hz => ex_move rfl) ?_
                refine mixz_o rfl ?_
                refine ops_yes rfl ?_
                refine ops_val (ex_load ty28 rfl (H13.cell (i := 3) rfl rfl)) ?_
                refine ops_nil ?_
                refine ⟨fun hne => (by first | exact H13.cell (i := 3) (o := 4) rfl rfl | (rw [← hks]; exact H13.cell (i := 3) (o := 4) rfl rfl)), ?_⟩
                refine nZ211 ?_
                refine mixz_o rfl ?_
                refine ops_yes rfl ?_
                refine ops_call_eq (ex_call gf19 rfl) (first_p q10.gv (W12.first : Int) _ (H13.cell (i := 5) rfl rfl)) ?_
                refine ops_nil ?_
                refine ⟨fun hne => (by first | exact H13.cell (i := 3) (o := 4) rfl rfl | (rw [← hks]; exact H13.cell (i := 3) (o := 4) rfl rfl)), ?_⟩
                refine nZ211 ?_
                refine mixz_p rfl ?_
                refine mix1_yes rfl ?_
                refine mix1_true (fun wz hz => ex_eql rfl rfl) (by omega) ?_
                refine mixz_p rfl ?_
                refine mix1_val (fun wz hz => ex_pick_t rfl rfl) ?_
                refine mixz_p rfl ?_
                refine mix1_val (fun wz hz => ex_move rfl) ?_
                refine mixz_p rfl ?_
                refine mix1_yes rfl ?_
                refine mix1_val (fun wz hz => ex_move rfl) ?_
                refine nZ211 ?_
                refine mixz_p rfl ?_
                refine mix1_yes rfl ?_
                refine mix1_val (fun wz hz => ex_nilCheck rfl) ?_
                refine mixz_p rfl ?_
                refine mix1_yes rfl ?_
                refine mix1_val (fun wz hz => ex_fieldAddr fl31_1 rfl) ?_
                refine mixz_p rfl ?_
                refine mix1_yes rfl ?_
                refine mix1_val (fun wz hz => ex_move rfl) ?_
                refine mixz_p rfl ?_
                refine mix1_yes rfl ?_
                refine mix1_val (fun wz hz => ex_nilCheck rfl) ?_
                refine nZ211 ?_
                refine mixz_p rfl ?_
                refine mix1_yes rfl ?_
                refine mix1_val (fun wz hz => ex_fieldAddr fl31_4 rfl) ?_
                refine mixz_p rfl ?_
                refine mix1_yes rfl ?_
                refine mix1_val (fun wz hz => ex_load ty3 rfl hz) ?_
                refine mixz_o rfl ?_
                refine ops_yes rfl ?_
                refine ops_val (ex_load ty28 rfl (H13.cell (i := 3) rfl rfl)) ?_
                refine ops_nil ?_
                refine ⟨fun hne => (by first | exact H13.cell (i := 3) (o := 4) rfl rfl | (rw [← hks]; exact H13.cell (i := 3) (o := 4) rfl rfl)), ?_⟩
                refine nZ211 ?_
                refine mixz_o rfl ?_
                refine ops_yes rfl ?_
                refine ops_call_val (ex_call gf15 rfl) (next_any q10.gv W12.first W12.recs.length q10.cr (hd q10.gr) _ (H13.cell (i := 5) rfl rfl) (H13.cell (i := 5) rfl rfl) (by omega)) ?_
                intro w14 Hd
                have H14 := H13.callN Hd
                refine ops_nil ?_
                refine ⟨fun hne => (by first | exact H14.cell (i := 3) (o := 4) rfl rfl | (rw [← hks]; exact H14.cell (i := 3) (o := 4) rfl rfl)), ?_⟩
                refine nZ211 ?_
                refine mixz_p rfl ?_
                refine mix1_yes rfl ?_
                refine mix1_true (fun wz hz => ex_geq rfl rfl) (by omega) ?_
                refine mixz_p rfl ?_
                refine mix1_val (fun wz hz => ex_pick_t rfl rfl) ?_
                refine mixz_o rfl ?_
                refine ops_val (ex_assign rfl) ?_
                refine ops_nil ?_
                refine ⟨fun hne => absurd rfl hne, ?_⟩
                refine nZ211 ?_
                refine mixz_nil ?_
                refine nR211 ?_
                refine run_ret ?_
                refine fin_ret1 rfl rfl ?_
                exact ⟨rfl, (HB.all H14).noRows⟩
    · skip
      refine ops_val (ex_move rfl) ?_
      refine nO211 ?_
      refine ops_no rfl ?_
      refine ops_no rfl ?_
      refine ops_val (ex_pick_f rfl rfl) ?_
      refine ops_nil ?_
      refine nR211 ?_
      refine run_cond_false rfl ?_
      refine run_exit ?_
      refine rnd_exit ?_
      refine blk_exit ?_
      refine run_seq ?_
      refine run_region ?_
      refine ops_val (ex_move rfl) ?_
      have hn1 := hag.next
      have hf1 := hag.first
      have hnx := hl.next
      obtain ⟨u, huu⟩ := u64_nat a2
      refine ops_val (ex_conv Try.underlying23 Try.underlying3 rfl huu) ?_
      refine ops_val (ex_move rfl) ?_
      refine ops_val (ex_nilCheck rfl) ?_
      refine nO211 ?_
      refine ops_val (ex_fieldAddr fl31_3 rfl) ?_
      refine ops_val (ex_load ty3 rfl (H3.cell (i := 6) rfl rfl)) ?_
      refine ops_val (ex_add rfl rfl ((IntWalk.i64_in _ (by omega)).trans (show ((s.K.all.length : Int) + 1) = ((s.K.all.length + 1 : Nat) : Int) by omega))) ?_
      refine ops_val (ex_conv Try.underlying23 Try.underlying3 rfl (IntWalk.u64_in _ (by omega))) ?_
      refine nO211 ?_
      refine ops_val (ex_rem rfl rfl (by omega) (tmodN u (s.K.all.length + 1))) ?_
      have hgo : u % (s.K.all.length + 1) < s.K.all.length + 1 := Nat.mod_lt _ (by omega)
      generalize u % (s.K.all.length + 1) = nn at hgo
      refine ops_val (ex_conv Try.underlying3 Try.underlying23 rfl (IntWalk.i64_in _ (by omega))) ?_
      refine ops_val (ex_assign rfl) ?_
      refine ops_nil ?_
      refine nR211 ?_
      refine run_seq ?_
      refine run_seq ?_
      refine run_region ?_
      refine ops_val (ex_move rfl) ?_
      refine ops_val (ex_nilCheck rfl) ?_
      refine ops_val (ex_fieldAddr fl31_1 rfl) ?_
      refine ops_val (ex_load ty28 rfl (H3.cell (i := 6) rfl rfl)) ?_
      refine nO211 ?_
      have HB : Hp w0 w3 [] (s.rows ++ []) := HB.all H3
      have hwt := hl.wait
      have htn := hl.turn
      have hft := hl.first
      refine ops_call (ex_call gf16 rfl) (sync_all s.m s.D s.W _ HB.less.less.here hl.ok.ok (by omega) (by omega) (by omega)) ?_
      rintro r w4 ⟨x, D4, W4, hr4, hres, hwp⟩
      obtain ⟨hx0, hrc4, hfs4, htd4, hwt4, q, hl, Hc⟩ := hl.sc (gone := 0) (by omega) (lt_rest2 HB) (Nat.zero_le _) hres hwp (by omega)
      rw [hr4, hx0]
      rw [List.drop_zero] at hrc4
      have HB : Hp w0 w4 [] ((⟨mv s.m q, D4, W4, s.k, s.K⟩ : Sx).rows ++ []) := HB.front2 Hc
      have H4 := HB.here
      have hln4 : W4.recs.length = s.W.recs.length := by rw [hrc4]
      clear hres hwp
      refine ops_false (ex_neq rfl rfl) (by decide) ?_
      refine ops_val (ex_move rfl) ?_
      refine nO211 ?_
      refine ops_yes rfl ?_
      refine ops_val (ex_move rfl) ?_
      refine ops_yes rfl ?_
      refine ops_val (ex_nilCheck rfl) ?_
      refine nO211 ?_
      refine ops_yes rfl ?_
      refine ops_val (ex_fieldAddr fl31_1 rfl) ?_
      refine ops_yes rfl ?_
      refine ops_val (ex_load ty28 rfl (H4.cell (i := 6) rfl rfl)) ?_
      refine nO211 ?_
      refine ops_yes rfl ?_
      refine ops_val (ex_move rfl) ?_
      refine ops_yes rfl ?_
      have hwt : D4.wait.length ≤ _ := hl.wait
      have htn : W4.turn ≤ _ := hl.turn
      have hft : W4.first ≤ _ := hl.first
      refine ops_call (ex_call gf13 rfl) (cut_all (nn : Int) (mv s.m q) D4 W4 _ HB.less.less.here hl.ok.ok (by omega) (by omega) (by omega)) ?_
      rintro r w5 hcut
      obtain ⟨x3, D3, W3, hr, hres, hwp⟩ := cut_some hcut (gone := nn) (by omega) (by omega)
      clear hcut
      have hlk : Live _ (⟨mv s.m q, D4, W4, s.k, s.K⟩ : Sx) [] 1024 _ := hl
      obtain ⟨hx3, hrc3, hfs3, htd3, hwt3, q1, hl, Hc⟩ := hlk.sc (by omega) (lt_rest2 HB) (by show nn ≤ W4.recs.length; omega) hres hwp (by show W4.first + W4.recs.length ≤ _; omega)
      rw [hr, hx3]
      clear hres hwp
      replace hrc3 : W3.recs = W4.recs.drop nn := hrc3
      replace hfs3 : W3.first = W4.first + nn := hfs3
      have hln3 : W3.recs.length = s.W.recs.length - nn := by rw [hrc3, List.length_drop]; omega
      have HB : Hp w0 w5 [] ((⟨mv s.m q1, D3, W3, s.k, s.K⟩ : Sx).rows ++ []) := HB.front2 Hc
      have H5 := HB.here
      refine nO211 ?_
      refine ops_yes rfl ?_
      refine ops_false (ex_neq rfl rfl) (by decide) ?_
      refine ops_val (ex_pick_f rfl rfl) ?_
      refine ops_nil ?_
      refine nR211 ?_
      refine run_cond_false rfl ?_
      refine run_skip ?_
      refine run_seq ?_
      refine run_region ?_
      refine ops_val (ex_move rfl) ?_
      refine ops_val (ex_move rfl) ?_
      refine ops_val (ex_move rfl) ?_
      refine ops_val (ex_nilCheck rfl) ?_
      refine nO211 ?_
      refine ops_val (ex_fieldAddr fl31_3 rfl) ?_
      refine ops_val (ex_load ty3 rfl (H5.cell (i := 6) rfl rfl)) ?_
      refine ops_val (ex_move rfl) ?_
      refine ops_val (ex_nilCheck rfl) ?_
      refine nO211 ?_
      refine ops_val (ex_fieldAddr fl31_4 rfl) ?_
      refine ops_store1 ty3 H5 6 rfl rfl rfl rfl (by first | decide | simp) rfl ?_
      intro w6 H6
      refine ops_val (ex_nilCheck rfl) ?_
      refine ops_val (ex_fieldAddr fl31_5 rfl) ?_
      refine ops_store1 ty3 H6 6 rfl rfl rfl rfl (by first | decide | simp) rfl ?_
      intro w7 H7
      refine ops_nil ?_
      refine nR211 ?_
      refine run_seq ?_
      refine run_region ?_
      refine ops_val (ex_move rfl) ?_
      refine ops_val (ex_nilCheck rfl) ?_
      refine ops_val (ex_fieldAddr fl31_0 rfl) ?_
      refine ops_val (ex_load ty27 rfl (H7.cell (i := 6) rfl rfl)) ?_
      refine nO211 ?_
      refine ops_val (ex_move rfl) ?_
      have HB : Hp w0 w7 [] ((⟨mv s.m q1, D3, W3, s.k, { s.K with safe := s.K.all.length, first := nn }⟩ : Sx).rows ++ []) := HB.all H7
      replace hl : Live w7 (⟨mv s.m q1, D3, W3, s.k, { s.K with safe := s.K.all.length, first := nn }⟩ : Sx) [] 1024 (i + 1 + 1) := (hl.to H7).re { s.K with safe := s.K.all.length, first := nn } rfl
      obtain ⟨sp0, hlg3⟩ := hl.lg
      have hsz3 : D3.kept.length = 1024 := hl.size
      have hlg3 : Lg D3.show 1024 W3 sp0 := by rw [← hsz3]; exact hlg3
      have hF1 : Fal D3 1024 W3 sp0 := ⟨hwt3, hsz3, hlg3⟩
      have hag3 : Agr W3 { s.K with safe := s.K.all.length, first := nn } := ⟨by show nn = W3.first; omega, by show s.K.all.length = W3.first + W3.recs.length; omega, by show W3.recs = s.K.all.drop W3.first; rw [hrc3, hrc4, hag.recs, List.drop_drop, hfs3, hf0, hfs4]; congr 1; omega⟩
      have hup3 : D3.down = false := hl.up
      have htu3 : W3.turn ≤ _ := hl.turn
      have hnx3 : s.K.all.length ≤ _ := hl.next
      refine ops_call (ex_call gf26 rfl) (arm_any (mv s.m q1).gd (mv s.m q1).gk (mv s.m q1).gw (mv s.m q1).cw (mv s.m q1).sp D3 _ HB.less.less.less.here hl.ok.ok.d a3 ha30 ha31) ?_
      rintro r w8 ⟨hr, hp⟩
      rw [hr]
      obtain ⟨D5, hD5⟩ : ∃ D', (D3.arm a3).1 = D' := ⟨_, rfl⟩
      have hk5 : D5.kept = D3.kept ∧ D5.wait = [] ∧ D5.down = false := by rw [← hD5, arm_ok hup3]; exact ⟨rfl, hwt3, hup3⟩
      rw [hD5] at hp
      obtain ⟨q2, hok5, Hd⟩ := hl.ok.disk (by rw [hk5.1]) hp
      have HB : Hp w0 w8 [] ((⟨md (mv s.m q1) q2, D5, W3, s.k, { s.K with safe := s.K.all.length, first := nn }⟩ : Sx).rows ++ []) := by
        have hz := Hp.front3 (a := dRows (mv s.m q1).gd (mv s.m q1).gk (mv s.m q1).gw (mv s.m q1).cw (mv s.m q1).sp D3) (b := lRows (mv s.m q1) W3) (d := kRows (mv s.m q1) s.k { s.K with safe := s.K.all.length, first := nn }) (R := []) HB Hd
        exact hz
      have har : Armd w8 (⟨md (mv s.m q1) q2, D5, W3, s.k, { s.K with safe := s.K.all.length, first := nn }⟩ : Sx) [] D3 W3 { s.K with safe := s.K.all.length, first := nn } 1024 sp0 (i + 2) := ⟨hok5, hk5.1, by show Fresh1 _ _ _ D5.wait; rw [hk5.2.1]; exact (fun p hp => by cases hp), by show D5.wait.length ≤ _; rw [hk5.2.1]; exact Nat.zero_le _, fun _ => ⟨by
          have e : D5.show = D3.show := funext fun i => by rw [show_kept hk5.2.1, show_kept hwt3, hk5.1]
          show Lg D5.show _ _ _
          rw [e]; exact hlg3, hl.dead, hag3, Nat.le_refl _, rfl, rfl⟩, List.take_of_length_le (Nat.le_refl _), ⟨Nat.le_refl _, by show s.K.all.length ≤ _; omega⟩, rfl, rfl⟩
      have H8 := HB.here
      refine ops_nil ?_
      refine nR211 ?_
      refine run_seq ?_
      refine run_seq ?_
      refine run_region ?_
      refine ops_val (ex_assign rfl) ?_
      refine ops_nil ?_
      refine nR211 ?_
      refine run_block ?_
      refine run_loop (fun n l w => ∃ (i2 : Nat) (y2 : Int) (s2 : Sx), 20 - i2 = n ∧ Fits [some (.slice A bs.length c), some (.slice A1 bs1.length c1), some (.int .i64 a2), some (.int .i64 a3), some (.slice A4 ks.length c4), some (.slice A5 xs.length c5), none, none, none, none, none, none, none, some (.pointer (some ⟨s.k.gb, 0, none⟩)), some (.int .i64 (nn : Int)), none, some (.int .i64 y2), none, none, none, none, none, none, none, none, none, none, none, none, none, none, none, none, none, none, none, none, none, none, none, none, none, none, none, none, none, none, none, none, none, none, none, none, none, none, none, none, none, none, none, none, none, none, none, none, none, none, none, none, none, none, none, none, none, none, none, none, none, none, none, none, none, none, none, none, none, none, none, none, none, none, none, none, none, none, none, none, none, none, none, none, none, none, none, none, none, none, none, none, none, none, none, none, none, none, none, none, none, none, none, none, none, none, none, none, none, none, none, none, none, none, none, none, none, none, none, none, none, none, none, none, none, none, none, none, none, none, none, none, none, none, none, none, none, none, none, none, none, none, none, none, none, none, none, none, none, none, none, none, none, none, none, none, none, none, none, none, none, none, none, none, none, none, none, none, none, none, none, none, none, none, none, none, none, none, none, none, none, none, none, none, none, none, none, none, none, none, none, none, none, none] l ∧ y2 = (i2 : Int) ∧ i2 ≤ 20 ∧ s2.k.gb = s.k.gb ∧ Armd w s2 [] D3 W3 { s.K with safe := s.K.all.length, first := nn } 1024 sp0 (i + 2 + i2) ∧ Hp w0 w [] (s2.rows ++ [])) (20) ?_ ?_
      · exact ⟨0, _, (⟨md (mv s.m q1) q2, D5, W3, s.k, { s.K with safe := s.K.all.length, first := nn }⟩ : Sx), rfl, (fs (fs (fs (fs (fs (fs (fn (fn (fn (fn (fn (fn (fn (fs (fs (fn (fs (fn (fn (fn (fn (fn (fn (fn (fn (fn (fn (fn (fn (fn (fn (fn (fn (fn (fn (fn (fn (fn (fn (fn (fn (fn (fn (fn (fn (fn (fn (fn (fn (fn (fn (fn (fn (fn (fn (fn (fn (fn (fn (fn (fn (fn (fn (fn (fn (fn (fn (fn (fn (fn (fn (fn (fn (fn (fn (fn (fn (fn (fn (fn (fn (fn (fn (fn (fn (fn (fn (fn (fn (fn (fn (fn (fn (fn (fn (fn (fn (fn (fn (fn (fn (fn (fn (fn (fn (fn (fn (fn (fn (fn (fn (fn (fn (fn (fn (fn (fn (fn (fn (fn (fn (fn (fn (fn (fn (fn (fn (fn (fn (fn (fn (fn (fn (fn (fn (fn (fn (fn (fn (fn (fn (fn (fn (fn (fn (fn (fn (fn (fn (fn (fn (fn (fn (fn (fn (fn (fn (fn (fn (fn (fn (fn (fn (fn (fn (fn (fn (fn (fn (fn (fn (fn (fn (fn (fn (fn (fn (fn (fn (fn (fn (fn (fn (fn (fn (fn (fn (fn (fn (fn (fn (fn (fn (fn (fn (fn (fn (fn (fn (fn (fn (fn (fn (fn (fn (fn (fn (fn (fn (fn (fn f0))))))))))))))))))))))))))))))))))))))))))))))))))))))))))))))))))))))))))))))))))))))))))))))))))))))))))))))))))))))))))))))))))))))))))))))))))))))))))))))))))))))))))))))))))))))))))))))))))))))))))))))))))), rfl, Nat.zero_le _, rfl, har, HB.all H8⟩
      · rintro n l w9 ⟨i2, y2, s2, rfl, hfit, rfl, hi2, hgb2, har, H9⟩
        obtain ⟨j, rfl⟩ := hfit.open
        refine nR211 ?_
        clear hfit
        have HB := H9
        replace H9 := HB.here
        rw [← hgb2]
        have hsz2 : s2.D.kept.length = 1024 := by rw [har.kept]; exact hsz3
        have hwt2 := har.wait
        have hnx2 := har.next
        refine run_seq ?_
        refine run_seq ?_
        refine run_region ?_
        refine ops_val (ex_move rfl) ?_
        refine ops_val (ex_move rfl) ?_
        refine ops_val (ex_len_slice Try.underlying29 rfl) ?_
        refine ops_test (ex_lss rfl rfl) (fun hp97 => ?_) (fun hp97 => ?_)
        · have hix : i2 < bs1.length := by omega
          obtain ⟨Be, ce, hzi, hrd, _⟩ := hL1.2 i2 hix
          refine ops_val (ex_move rfl) ?_
          refine nO211 ?_
          refine ops_yes rfl ?_
          refine ops_val (ex_move rfl) ?_
          refine ops_yes rfl ?_
          refine ops_test (ex_lss rfl rfl) (fun hp100 => ?_) (fun hp100 => ?_)
          · have him : i2 < 20 := by omega
            refine ops_val (ex_pick_t rfl rfl) ?_
            refine ops_val (ex_move rfl) ?_
            refine nO211 ?_
            refine ops_yes rfl ?_
            refine ops_val (ex_move rfl) ?_
            refine ops_yes rfl ?_
            refine ops_val (ex_nilCheck rfl) ?_
            refine nO211 ?_
            refine ops_yes rfl ?_
            refine ops_val (ex_fieldAddr fl31_0 rfl) ?_
            refine ops_yes rfl ?_
            refine ops_val (ex_load ty27 rfl (H9.cell (i := 6) rfl rfl)) ?_
            refine nO211 ?_
            refine ops_yes rfl ?_
            refine ops_call_eq (ex_call gf27 rfl) (down_p _ s2.D.down _ (H9.cell (i := 0) (o := 2) rfl rfl)) ?_
            rcases Bool.eq_false_or_eq_true s2.D.down with hdn | hdn <;> rw [hdn]
            · skip
              refine ops_yes rfl ?_
              refine ops_val (ex_not rfl) ?_
              refine ops_val (ex_pick_t rfl rfl) ?_
              refine ops_nil ?_
              refine nR211 ?_
              refine run_cond_false rfl ?_
              refine run_exit ?_
              refine rnd_exit ?_
              refine blk_exit ?_
              refine run_seq ?_
              refine run_region ?_
              refine ops_val (ex_move rfl) ?_
              refine ops_val (ex_nilCheck rfl) ?_
              refine ops_val (ex_fieldAddr fl31_0 rfl) ?_
              refine ops_val (ex_load ty27 rfl (H9.cell (i := 6) rfl rfl)) ?_
              refine nO211 ?_
              refine ops_val (ex_move rfl) ?_
              have HB : Hp w0 w9 [] (s2.rows ++ []) := HB.all H9
              have HD : Hp w0 w9 [] (dRows s2.m.gd s2.m.gk s2.m.gw s2.m.cw s2.m.sp s2.D) := HB.less.less.less
              refine ops_call (ex_call gf25 rfl) (crash_any s2.m.gd s2.m.gk s2.m.gw s2.m.cw s2.m.sp s2.D _ HD.here har.ok.ok.d A4 ks c4 (hA4.to0 HB) (fun h0 p hp hx => old_not HD (ks_lt hA4 h0 hp) (fun hx => by cases hx) hx) (by omega)) ?_
              rintro r w10 ⟨hr, hp⟩
              rw [hr]
              have hF2 := hF1.fall har.kept har.fresh ks
              obtain ⟨q4, he, Hd⟩ := har.ok.bare.disk hp
              obtain ⟨D7, hD7⟩ : ∃ D', s2.D.crash ks = D' := ⟨_, rfl⟩
              rw [hD7] at he Hd hF2
              have HB : Hp w0 w10 [] (eRows (md s2.m q4) D7 s2.k s2.K) := (Hp.front3 (a := dRows s2.m.gd s2.m.gk s2.m.gw s2.m.cw s2.m.sp s2.D) (b := lRows s2.m s2.W) (d := kRows s2.m s2.k s2.K) (R := []) HB Hd).pick [0, 1, 2, 6, 7] (by decide)
              have H10 := HB.here
              refine ops_nil ?_
              refine nR211 ?_
              refine run_seq ?_
              refine run_seq ?_
              refine run_region ?_
              refine ops_val (ex_assign rfl) ?_
              refine ops_nil ?_
              refine nR211 ?_
              refine run_block ?_
              refine run_loop (fun n l w => ∃ (i3 : Nat) (y3 : Int) (q5 : Mw) (D8 : Dk), 5 - i3 = n ∧ Fits [some (.slice A bs.length c), some (.slice A1 bs1.length c1), some (.int .i64 a2), some (.int .i64 a3), some (.slice A4 ks.length c4), some (.slice A5 xs.length c5), none, none, none, none, none, none, none, some (.pointer (some ⟨s2.k.gb, 0, none⟩)), some (.int .i64 (nn : Int)), none, none, some (.int .i64 y3), none, none, none, none, none, none, none, none, none, none, none, none, none, none, none, none, none, none, none, none, none, none, none, none, none, none, none, none, none, none, none, none, none, none, none, none, none, none, none, none, none, none, none, none, none, none, none, none, none, none, none, none, none, none, none, none, none, none, none, none, none, none, none, none, none, none, none, none, none, none, none, none, none, none, none, none, none, none, none, none, none, none, none, none, none, none, none, none, none, none, none, none, none, none, none, none, none, none, none, none, none, none, none, none, none, none, none, none, none, none, none, none, none, none, none, none, none, none, none, none, none, none, none, none, none, none, none, none, none, none, none, none, none, none, none, none, none, none, none, none, none, none, none, none, none, none, none, none, none, none, none, none, none, none, none, none, none, none, none, none, none, none, none, none, none, none, none, none, none, none, none, none, none, none, none, none, none, none, none, none, none, none, none, none, none, none, none, none, none, none, none, none, none] l ∧ y3 = (i3 : Int) ∧ i3 ≤ 5 ∧ EOk w (md s2.m q5) D8 s2.k s2.K ∧ Fal D8 1024 W3 sp0 ∧ Hp w0 w [] (eRows (md s2.m q5) D8 s2.k s2.K)) (5) ?_ ?_
              · exact ⟨0, _, q4, D7, rfl, (fs (fs (fs (fs (fs (fs (fn (fn (fn (fn (fn (fn (fn (fs (fs (fn (fn (fs (fn (fn (fn (fn (fn (fn (fn (fn (fn (fn (fn (fn (fn (fn (fn (fn (fn (fn (fn (fn (fn (fn (fn (fn (fn (fn (fn (fn (fn (fn (fn (fn (fn (fn (fn (fn (fn (fn (fn (fn (fn (fn (fn (fn (fn (fn (fn (fn (fn (fn (fn (fn (fn (fn (fn (fn (fn (fn (fn (fn (fn (fn (fn (fn (fn (fn (fn (fn (fn (fn (fn (fn (fn (fn (fn (fn (fn (fn (fn (fn (fn (fn (fn (fn (fn (fn (fn (fn (fn (fn (fn (fn (fn (fn (fn (fn (fn (fn (fn (fn (fn (fn (fn (fn (fn (fn (fn (fn (fn (fn (fn (fn (fn (fn (fn (fn (fn (fn (fn (fn (fn (fn (fn (fn (fn (fn (fn (fn (fn (fn (fn (fn (fn (fn (fn (fn (fn (fn (fn (fn (fn (fn (fn (fn (fn (fn (fn (fn (fn (fn (fn (fn (fn (fn (fn (fn (fn (fn (fn (fn (fn (fn (fn (fn (fn (fn (fn (fn (fn (fn (fn (fn (fn (fn (fn (fn (fn (fn (fn (fn (fn (fn (fn (fn (fn (fn (fn (fn (fn (fn (fn (fn (fn f0))))))))))))))))))))))))))))))))))))))))))))))))))))))))))))))))))))))))))))))))))))))))))))))))))))))))))))))))))))))))))))))))))))))))))))))))))))))))))))))))))))))))))))))))))))))))))))))))))))))))))))))))))), rfl, Nat.zero_le _, he, hF2, HB.all H10⟩
              · rintro n l w11 ⟨i3, y3, q5, D8, rfl, hfit, rfl, hi3, he, hF3, H11⟩
                obtain ⟨j, rfl⟩ := hfit.open
                refine nR211 ?_
                clear hfit
                have HB := H11
                replace H11 := HB.here
                refine run_seq ?_
                refine run_seq ?_
                refine run_region ?_
                refine ops_val (ex_move rfl) ?_
                refine ops_val (ex_move rfl) ?_
                refine ops_val (ex_len_slice Try.underlying22 rfl) ?_
                refine ops_test (ex_lss rfl rfl) (fun hp136 => ?_) (fun hp136 => ?_)
                · have hx5 : i3 < xs.length := by omega
                  refine ops_val (ex_move rfl) ?_
                  refine nO211 ?_
                  refine ops_yes rfl ?_
                  refine ops_val (ex_move rfl) ?_
                  refine ops_yes rfl ?_
                  refine ops_test (ex_lss rfl rfl) (fun hp139 => ?_) (fun hp139 => ?_)
                  · have hm5 : i3 < 5 := by omega
                    refine ops_val (ex_pick_t rfl rfl) ?_
                    refine ops_nil ?_
                    refine nR211 ?_
                    refine run_cond_true rfl ?_
                    refine run_skip ?_
                    refine run_seq ?_
                    refine run_block ?_
                    refine run_seq ?_
                    refine run_region ?_
                    refine ops_val (ex_move rfl) ?_
                    refine ops_val (ex_nilCheck rfl) ?_
                    refine ops_val (ex_fieldAddr fl31_0 rfl) ?_
                    refine ops_val (ex_load ty27 rfl (H11.cell (i := 3) rfl rfl)) ?_
                    refine nO211 ?_
                    have HB : Hp w0 w11 [] (eRows (md s2.m q5) D8 s2.k s2.K) := HB.all H11
                    refine ops_call (ex_call gf28 rfl) (start_any (md s2.m q5).gd (md s2.m q5).gk (md s2.m q5).gw (md s2.m q5).cw (md s2.m q5).sp D8 _ HB.less.here he.d) ?_
                    rintro r w12 ⟨hr, hp⟩
                    rw [hr]
                    obtain ⟨q6, he, Hd⟩ := he.disk (m := md s2.m q5) hp
                    obtain ⟨D9, hD9⟩ : ∃ D', D8.start = D' := ⟨_, rfl⟩
                    rw [hD9] at he Hd
                    obtain ⟨hF3, hd3⟩ := hF3.start
                    rw [hD9] at hF3 hd3
                    have HB : Hp w0 w12 [] (eRows (md s2.m q6) D9 s2.k s2.K) := HB.front Hd
                    have H12 := HB.here
                    refine ops_nil ?_
                    refine nR211 ?_
                    refine run_seq ?_
                    refine run_mixZ 12 [(true, 0), (true, 1), (true, 2), (true, 3), (true, 4), (true, 5), (true, 6), (true, 7), (true, 8), (true, 9), (true, 10), (true, 11), (false, 12)] H12 [3] mixed (by decide) (by kernel_rfl) ?_
                    rintro w13 hw13
                    have H13 := Hp.drew H12; rw [← hw13] at H13
                    refine mixz_p rfl ?_
                    refine mix1_val (fun wz hz => ex_move rfl) ?_
                    refine mixz_p rfl ?_
                    refine mix1_val (fun wz hz => ex_nilCheck rfl) ?_
                    refine mixz_p rfl ?_
                    refine mix1_val (fun wz hz => ex_fieldAddr fl31_0 rfl) ?_
                    refine mixz_p rfl ?_
                    refine mix1_val (fun wz hz => ex_load ty27 rfl (hz.cell (i := 0) rfl rfl)) ?_
                    refine nZ211 ?_
                    refine mixz_p rfl ?_
                    refine mix1_val (fun wz hz => ex_move rfl) ?_
                    refine mixz_p rfl ?_
                    refine mix1_val (fun wz hz => ex_move rfl) ?_
                    refine mixz_p rfl ?_
                    obtain ⟨pb, rfl⟩ := hA5.some_ (by omega)
                    refine mix1_val (fun wz hz => ex_idx Try.underlying22 ty3 rfl rfl rfl hx5 (Nat.mul_one _)) ?_
                    refine mixz_p rfl ?_
                    refine mix1_val (fun wz hz => ex_load ty3 rfl ((hA5.to0 (HB.all hz)).cells pb rfl i3 _ (i64s_get hx5))) ?_
                    refine nZ211 ?_
                    refine mixz_p rfl ?_
                    obtain ⟨u3, huu3⟩ := u64_nat xs[i3]
                    refine mix1_val (fun wz hz => ex_conv Try.underlying23 Try.underlying3 rfl huu3) ?_
                    refine mixz_p rfl ?_
                    refine mix1_val (fun wz hz => ex_rem rfl rfl (by omega) (tmodN u3 9)) ?_
                    have h9 : u3 % 9 < 9 := Nat.mod_lt _ (by decide)
                    generalize u3 % 9 = n9 at h9
                    refine mixz_p rfl ?_
                    refine mix1_val (fun wz hz => ex_conv Try.underlying3 Try.underlying23 rfl (IntWalk.i64_in _ (by omega))) ?_
                    refine mixz_p rfl ?_
                    refine mix1_val (fun wz hz => ex_add rfl rfl (IntWalk.i64_in _ (by omega))) ?_
                    refine nZ211 ?_
                    refine mixz_o rfl ?_
                    replace he : EOk w13 (md s2.m q6) D9 s2.k s2.K := he.keep0 (es := []) (by rw [‹w13 = _›]; exact Hp.drewW _)
                    have HB : Hp w0 w13 [] (eRows (md s2.m q6) D9 s2.k s2.K) := HB.all H13
                    refine ops_call (ex_call gf26 rfl) (arm_any (md s2.m q6).gd (md s2.m q6).gk (md s2.m q6).gw (md s2.m q6).cw (md s2.m q6).sp D9 _ HB.less.here he.d (1 + (n9 : Int)) (by omega) (by omega)) ?_
                    rintro r w14 ⟨hr, hp⟩
                    rw [hr]
                    obtain ⟨q7, he, Hd⟩ := he.disk (m := md s2.m q6) hp
                    obtain ⟨D10, hD10⟩ : ∃ D', (D9.arm (1 + (n9 : Int))).1 = D' := ⟨_, rfl⟩
                    rw [hD10] at he Hd
                    obtain ⟨hF3, hd3⟩ := hF3.arm hd3 (1 + (n9 : Int))
                    rw [hD10] at hF3 hd3
                    have HB : Hp w0 w14 [] (eRows (md s2.m q7) D10 s2.k s2.K) := HB.front Hd
                    have H14 := HB.here
                    refine ops_nil ?_
                    refine ⟨fun hne => absurd rfl hne, ?_⟩
                    refine nZ211 ?_
                    refine mixz_nil ?_
                    refine nR211 ?_
                    refine run_seq ?_
                    refine run_region ?_
                    refine ops_val (ex_move rfl) ?_
                    refine ops_val (ex_nilCheck rfl) ?_
                    refine ops_val (ex_fieldAddr fl31_0 rfl) ?_
                    refine ops_val (ex_load ty27 rfl (H14.cell (i := 3) rfl rfl)) ?_
                    refine nO211 ?_
                    have HB : Hp w0 w14 [] (eRows (md s2.m q7) D10 s2.k s2.K) := HB.all H14
                    refine ops_call (ex_call gf18 rfl) (openF_any (md s2.m q7) D10 s2.k s2.K 1024 sp0 W3 _ HB.less.here he (lt_rest HB) hF3 hd3 htd3 (by omega) (by omega)) ?_
                    rintro r w15 ⟨q8, W8, hr, he, _, Hc, _, _⟩
                    rw [hr]
                    have HB : Hp w0 w15 [] (eRows (md s2.m q8) D10 s2.k s2.K) := (HB.front Hc).pick [0, 1, 2, 6, 7] (by decide)
                    have H15 := HB.here
                    refine ops_val (ex_move rfl) ?_
                    refine ops_val (ex_extract rfl rfl) ?_
                    refine ops_val (ex_extract rfl rfl) ?_
                    refine nO211 ?_
                    refine ops_val (ex_assign rfl) ?_
                    refine ops_val (ex_assign rfl) ?_
                    refine ops_nil ?_
                    refine nR211 ?_
                    refine run_seq ?_
                    refine run_seq ?_
                    refine run_region ?_
                    refine ops_val (ex_move rfl) ?_
                    refine ops_false (ex_neq rfl rfl) (by decide) ?_
                    refine ops_val (ex_move rfl) ?_
                    refine nO211 ?_
                    refine ops_no rfl ?_
                    refine ops_no rfl ?_
                    refine ops_val (ex_pick_f rfl rfl) ?_
                    refine ops_val (ex_move rfl) ?_
                    refine nO211 ?_
                    refine ops_yes rfl ?_
                    refine ops_val (ex_move rfl) ?_
                    refine ops_yes rfl ?_
                    refine ops_true (ex_neq_nil_ptr Try.underlying28 rfl) (by simp) ?_
                    refine nO211 ?_
                    refine ops_yes rfl ?_
                    refine ops_val (ex_move rfl) ?_
                    refine ops_yes rfl ?_
                    refine ops_true (ex_eql rfl rfl) (by decide) ?_
                    refine nO211 ?_
                    refine ops_yes rfl ?_
                    refine ops_false (ex_neq_bool Try.underlying4 rfl rfl) (by simp) ?_
                    refine ops_val (ex_pick_f rfl rfl) ?_
                    refine ops_nil ?_
                    refine nR211 ?_
                    refine run_cond_false rfl ?_
                    refine run_skip ?_
                    refine run_region ?_
                    refine ops_val (ex_move rfl) ?_
                    refine ops_val (ex_nilCheck rfl) ?_
                    refine ops_val (ex_fieldAddr fl31_0 rfl) ?_
                    refine ops_val (ex_load ty27 rfl (H15.cell (i := 3) rfl rfl)) ?_
                    refine nO211 ?_
                    refine ops_val (ex_move rfl) ?_
                    have HB : Hp w0 w15 [] (eRows (md s2.m q8) D10 s2.k s2.K) := HB.all H15
                    refine ops_call (ex_call gf25 rfl) (crash_any (md s2.m q8).gd (md s2.m q8).gk (md s2.m q8).gw (md s2.m q8).cw (md s2.m q8).sp D10 _ HB.less.here he.d A4 ks c4 (hA4.to0 HB) (fun h0 p hp hx => old_not HB.less (ks_lt hA4 h0 hp) (fun hx => by cases hx) hx) (by rw [hF3.wait]; decide)) ?_
                    rintro r w16 ⟨hr, hp⟩
                    rw [hr]
                    obtain ⟨q9, he, Hd⟩ := he.disk (m := md s2.m q8) hp
                    obtain ⟨D11, hD11⟩ : ∃ D', D10.crash ks = D' := ⟨_, rfl⟩
                    rw [hD11] at he Hd
                    have hF3 := hF3.crash ks
                    rw [hD11] at hF3
                    have HB : Hp w0 w16 [] (eRows (md s2.m q9) D11 s2.k s2.K) := HB.front Hd
                    have H16 := HB.here
                    refine ops_nil ?_
                    refine nR211 ?_
                    refine run_nil (blk_normal ?_)
                    refine run_region ?_
                    refine ops_val (ex_move rfl) ?_
                    refine ops_val (ex_add rfl rfl (IntWalk.i64_in _ (by omega))) ?_
                    refine ops_val (ex_assign rfl) ?_
                    refine ops_nil ?_
                    refine nR211 ?_
                    refine run_nil (rnd_normal ?_)
                    exact ⟨5 - (i3 + 1), by omega, i3 + 1, _, q9, D11, rfl, (fs (fs (fs (fs (fs (fs (fn (fn (fn (fn (fn (fn (fn (fs (fs (fn (fn (fs (fn (fn (fn (fn (fn (fn (fn (fn (fn (fn (fn (fn (fn (fn (fn (fn (fn (fn (fn (fn (fn (fn (fn (fn (fn (fn (fn (fn (fn (fn (fn (fn (fn (fn (fn (fn (fn (fn (fn (fn (fn (fn (fn (fn (fn (fn (fn (fn (fn (fn (fn (fn (fn (fn (fn (fn (fn (fn (fn (fn (fn (fn (fn (fn (fn (fn (fn (fn (fn (fn (fn (fn (fn (fn (fn (fn (fn (fn (fn (fn (fn (fn (fn (fn (fn (fn (fn (fn (fn (fn (fn (fn (fn (fn (fn (fn (fn (fn (fn (fn (fn (fn (fn (fn (fn (fn (fn (fn (fn (fn (fn (fn (fn (fn (fn (fn (fn (fn (fn (fn (fn (fn (fn (fn (fn (fn (fn (fn (fn (fn (fn (fn (fn (fn (fn (fn (fn (fn (fn (fn (fn (fn (fn (fn (fn (fn (fn (fn (fn (fn (fn (fn (fn (fn (fn (fn (fn (fn (fn (fn (fn (fn (fn (fn (fn (fn (fn (fn (fn (fn (fn (fn (fn (fn (fn (fn (fn (fn (fn (fn (fn (fn (fn (fn (fn (fn (fn (fn (fn (fn (fn (fn (fn f0))))))))))))))))))))))))))))))))))))))))))))))))))))))))))))))))))))))))))))))))))))))))))))))))))))))))))))))))))))))))))))))))))))))))))))))))))))))))))))))))))))))))))))))))))))))))))))))))))))))))))))))))))), by omega, by omega, he, hF3, HB.all H16⟩
                  · skip
                    refine ops_val (ex_pick_t rfl rfl) ?_
                    refine ops_nil ?_
                    refine nR211 ?_
                    refine run_cond_false rfl ?_
                    refine run_exit ?_
                    refine rnd_exit ?_
                    refine blk_exit ?_
                    refine run_seq ?_
                    refine run_mixS 23 [(true, 0), (false, 1), (true, 2), (true, 3), (true, 4), (true, 5), (true, 8), (false, 6), (false, 7), (true, 9), (true, 10), (true, 11), (true, 12), (true, 13), (true, 14), (true, 17), (true, 18), (true, 19), (true, 20), (false, 15), (false, 16), (true, 21), (true, 22), (false, 23)] (fun wz => wz.cell? ⟨s2.k.gb, 4, none⟩ = some (.int .i64 (s2.K.safe : Int))) mixed (by kernel_rfl) ?_
                    rintro w12 hw12
                    have H12 := Hp.drew H11; rw [← hw12] at H12
                    refine ⟨(by first | exact H12.cell (i := 3) (o := 4) rfl rfl | (rw [← hks]; exact H12.cell (i := 3) (o := 4) rfl rfl)), ?_⟩
                    refine mixz_p rfl ?_
                    refine mix1_val (fun wz hz => ex_move rfl) ?_
                    refine mixz_o rfl ?_
                    have HB : Hp w0 w12 [] (eRows (md s2.m q5) D8 s2.k s2.K) := HB.all H12
                    replace he : EOk w12 (md s2.m q5) D8 s2.k s2.K := he.keep0 (es := []) (by rw [‹w12 = _›]; exact Hp.drewW _)
                    have hpre : s2.K.all.take s.K.all.length = s.K.all := har.pre
                    have hnx0 : s.K.all.length = W3.first + W3.recs.length := hag3.next
                    have hsf0 : s2.K.safe = s.K.all.length := har.safe
                    have hff0 : s2.K.first = nn := har.first
                    have hrcO : W3.recs = (s2.K.all.drop W3.first).take W3.recs.length := by
                      have h1 : W3.recs = s.K.all.drop W3.first := hag3.recs
                      have e : (s2.K.all.take s.K.all.length).drop W3.first = (s2.K.all.drop W3.first).take (s.K.all.length - W3.first) := List.drop_take ..
                      rw [hpre, ← h1, hnx0, Nat.add_sub_cancel_left] at e
                      exact e
                    have hlO := hnx2.1
                    have hlO : s.K.all.length ≤ s2.K.all.length := hlO
                    refine ops_call (ex_call gf29 rfl) (openB_any (md s2.m q5) D8 s2.k s2.K 1024 sp0 W3 _ HB.here he hF3 htd3 (by omega) (by omega) hrcO (by omega) (by omega) (by omega)) ?_
                    rintro r w13 ⟨hr, q10, D12, W12, k12, K12, hfO, hrO, hgO, hks, Hc⟩
                    rw [hr]
                    replace hks : K12.safe = s2.K.safe := by omega
                    have hlW : W12.recs.length = W3.recs.length := by rw [hrO]
                    have HB := (HB.all Hc).pick [2, 3, 4, 0, 1, 5, 6, 7] (by decide)
                    have H13 := HB.here
                    rw [← hgO]
                    refine ops_nil ?_
                    refine ⟨fun hne => (by first | exact H13.cell (i := 3) (o := 4) rfl rfl | (rw [← hks]; exact H13.cell (i := 3) (o := 4) rfl rfl)), ?_⟩
                    refine nZ211 ?_
                    refine mixz_p rfl ?_
                    refine mix1_val (fun wz hz => ex_move rfl) ?_
                    refine mixz_p rfl ?_
                    refine mix1_yes rfl ?_
                    refine mix1_val (fun wz hz => ex_move rfl) ?_
                    refine mixz_p rfl ?_
                    refine mix1_yes rfl ?_
                    refine mix1_val (fun wz hz => ex_nilCheck rfl) ?_
                    refine mixz_p rfl ?_
                    refine mix1_yes rfl ?_
                    refine mix1_val (fun wz hz => ex_fieldAddr fl31_1 rfl) ?_
                    refine nZ211 ?_
                    refine mixz_p rfl ?_
                    refine mix1_yes rfl ?_
                    refine mix1_val (fun wz hz => ex_move rfl) ?_
                    refine mixz_o rfl ?_
                    refine ops_yes rfl ?_
                    refine ops_val (ex_load ty28 rfl (H13.cell (i := 3) rfl rfl)) ?_
                    refine ops_nil ?_
                    refine ⟨fun hne => (by first | exact H13.cell (i := 3) (o := 4) rfl rfl | (rw [← hks]; exact H13.cell (i := 3) (o := 4) rfl rfl)), ?_⟩
                    refine nZ211 ?_
                    refine mixz_o rfl ?_
                    refine ops_yes rfl ?_
                    refine ops_call_eq (ex_call gf19 rfl) (first_p q10.gv (W12.first : Int) _ (H13.cell (i := 5) rfl rfl)) ?_
                    refine ops_nil ?_
                    refine ⟨fun hne => (by first | exact H13.cell (i := 3) (o := 4) rfl rfl | (rw [← hks]; exact H13.cell (i := 3) (o := 4) rfl rfl)), ?_⟩
                    refine nZ211 ?_
                    refine mixz_p rfl ?_
                    refine mix1_yes rfl ?_
                    refine mix1_true (fun wz hz => ex_eql rfl rfl) (by omega) ?_
                    refine mixz_p rfl ?_
                    refine mix1_val (fun wz hz => ex_pick_t rfl rfl) ?_
                    refine mixz_p rfl ?_
                    refine mix1_val (fun wz hz => ex_move rfl) ?_
                    refine mixz_p rfl ?_
                    refine mix1_yes rfl ?_
                    refine mix1_val (fun wz hz => ex_move rfl) ?_
                    refine nZ211 ?_
                    refine mixz_p rfl ?_
                    refine mix1_yes rfl ?_
                    refine mix1_val (fun wz hz => ex_nilCheck rfl) ?_
                    refine mixz_p rfl ?_
                    refine mix1_yes rfl ?_
                    refine mix1_val (fun wz hz => ex_fieldAddr fl31_1 rfl) ?_
                    refine mixz_p rfl ?_
                    refine mix1_yes rfl ?_
                    refine mix1_val (fun wz hz => ex_move rfl) ?_
                    refine mixz_p rfl ?_
                    refine mix1_yes rfl ?_
                    refine mix1_val (fun wz hz => ex_nilCheck rfl) ?_
                    refine nZ211 ?_
                    refine mixz_p rfl ?_
                    refine mix1_yes rfl ?_
                    refine mix1_val (fun wz hz => ex_fieldAddr fl31_4 rfl) ?_
                    refine mixz_p rfl ?_
                    refine mix1_yes rfl ?_
                    refine mix1_val (fun wz hz => ex_load ty3 rfl hz) ?_
                    refine mixz_o rfl ?_
                    refine ops_yes rfl ?_
                    refine ops_val (ex_load ty28 rfl (H13.cell (i := 3) rfl rfl)) ?_
                    refine ops_nil ?_
                    refine ⟨fun hne => (by first | exact H13.cell (i := 3) (o := 4) rfl rfl | (rw [← hks]; exact H13.cell (i := 3) (o := 4) rfl rfl)), ?_⟩
                    refine nZ211 ?_
                    refine mixz_o rfl ?_
                    refine ops_yes rfl ?_
                    refine ops_call_val (ex_call gf15 rfl) (next_any q10.gv W12.first W12.recs.length q10.cr (hd q10.gr) _ (H13.cell (i := 5) rfl rfl) (H13.cell (i := 5) rfl rfl) (by omega)) ?_
                    intro w14 Hd
                    have H14 := H13.callN Hd
                    refine ops_nil ?_
                    refine ⟨fun hne => (by first | exact H14.cell (i := 3) (o := 4) rfl rfl | (rw [← hks]; exact H14.cell (i := 3) (o := 4) rfl rfl)), ?_⟩
                    refine nZ211 ?_
                    refine mixz_p rfl ?_
                    refine mix1_yes rfl ?_
                    refine mix1_true (fun wz hz => ex_geq rfl rfl) (by omega) ?_
                    refine mixz_p rfl ?_
                    refine mix1_val (fun wz hz => ex_pick_t rfl rfl) ?_
                    refine mixz_o rfl ?_
                    refine ops_val (ex_assign rfl) ?_
                    refine ops_nil ?_
                    refine ⟨fun hne => absurd rfl hne, ?_⟩
                    refine nZ211 ?_
                    refine mixz_nil ?_
                    refine nR211 ?_
                    refine run_ret ?_
                    refine fin_ret1 rfl rfl ?_
                    exact ⟨rfl, (HB.all H14).noRows⟩
                · skip
                  refine ops_val (ex_move rfl) ?_
                  refine nO211 ?_
                  refine ops_no rfl ?_
                  refine ops_no rfl ?_
                  refine ops_val (ex_pick_f rfl rfl) ?_
                  refine ops_nil ?_
                  refine nR211 ?_
                  refine run_cond_false rfl ?_
                  refine run_exit ?_
                  refine rnd_exit ?_
                  refine blk_exit ?_
                  refine run_seq ?_
                  refine run_mixS 23 [(true, 0), (false, 1), (true, 2), (true, 3), (true, 4), (true, 5), (true, 8), (false, 6), (false, 7), (true, 9), (true, 10), (true, 11), (true, 12), (true, 13), (true, 14), (true, 17), (true, 18), (true, 19), (true, 20), (false, 15), (false, 16), (true, 21), (true, 22), (false, 23)] (fun wz => wz.cell? ⟨s2.k.gb, 4, none⟩ = some (.int .i64 (s2.K.safe : Int))) mixed (by kernel_rfl) ?_
                  rintro w12 hw12
                  have H12 := Hp.drew H11; rw [← hw12] at H12
                  refine ⟨(by first | exact H12.cell (i := 3) (o := 4) rfl rfl | (rw [← hks]; exact H12.cell (i := 3) (o := 4) rfl rfl)), ?_⟩
                  refine mixz_p rfl ?_
                  refine mix1_val (fun wz hz => ex_move rfl) ?_
                  refine mixz_o rfl ?_
                  have HB : Hp w0 w12 [] (eRows (md s2.m q5) D8 s2.k s2.K) := HB.all H12
                  replace he : EOk w12 (md s2.m q5) D8 s2.k s2.K := he.keep0 (es := []) (by rw [‹w12 = _›]; exact Hp.drewW _)
                  have hpre : s2.K.all.take s.K.all.length = s.K.all := har.pre
                  have hnx0 : s.K.all.length = W3.first + W3.recs.length := hag3.next
                  have hsf0 : s2.K.safe = s.K.all.length := har.safe
                  have hff0 : s2.K.first = nn := har.first
                  have hrcO : W3.recs = (s2.K.all.drop W3.first).take W3.recs.length := by
                    have h1 : W3.recs = s.K.all.drop W3.first := hag3.recs
                    have e : (s2.K.all.take s.K.all.length).drop W3.first = (s2.K.all.drop W3.first).take (s.K.all.length - W3.first) := List.drop_take ..
                    rw [hpre, ← h1, hnx0, Nat.add_sub_cancel_left] at e
                    exact e
                  have hlO := hnx2.1
                  have hlO : s.K.all.length ≤ s2.K.all.length := hlO
                  refine ops_call (ex_call gf29 rfl) (openB_any (md s2.m q5) D8 s2.k s2.K 1024 sp0 W3 _ HB.here he hF3 htd3 (by omega) (by omega) hrcO (by omega) (by omega) (by omega)) ?_
                  rintro r w13 ⟨hr, q10, D12, W12, k12, K12, hfO, hrO, hgO, hks, Hc⟩
                  rw [hr]
                  replace hks : K12.safe = s2.K.safe := by omega
                  have hlW : W12.recs.length = W3.recs.length := by rw [hrO]
                  have HB := (HB.all Hc).pick [2, 3, 4, 0, 1, 5, 6, 7] (by decide)
                  have H13 := HB.here
                  rw [← hgO]
                  refine ops_nil ?_
                  refine ⟨fun hne => (by first | exact H13.cell (i := 3) (o := 4) rfl rfl | (rw [← hks]; exact H13.cell (i := 3) (o := 4) rfl rfl)), ?_⟩
                  refine nZ211 ?_
                  refine mixz_p rfl ?_
                  refine mix1_val (fun wz hz => ex_move rfl) ?_
                  refine mixz_p rfl ?_
                  refine mix1_yes rfl ?_
                  refine mix1_val (fun wz hz => ex_move rfl) ?_
                  refine mixz_p rfl ?_
                  refine mix1_yes rfl ?_
                  refine mix1_val (fun wz hz => ex_nilCheck rfl) ?_
                  refine mixz_p rfl ?_
                  refine mix1_yes rfl ?_
                  refine mix1_val (fun wz hz => ex_fieldAddr fl31_1 rfl) ?_
                  refine nZ211 ?_
                  refine mixz_p rfl ?_
                  refine mix1_yes rfl ?_
                  refine mix1_val (fun wz hz => ex_move rfl) ?_
                  refine mixz_o rfl ?_
                  refine ops_yes rfl ?_
                  refine ops_val (ex_load ty28 rfl (H13.cell (i := 3) rfl rfl)) ?_
                  refine ops_nil ?_
                  refine ⟨fun hne => (by first | exact H13.cell (i := 3) (o := 4) rfl rfl | (rw [← hks]; exact H13.cell (i := 3) (o := 4) rfl rfl)), ?_⟩
                  refine nZ211 ?_
                  refine mixz_o rfl ?_
                  refine ops_yes rfl ?_
                  refine ops_call_eq (ex_call gf19 rfl) (first_p q10.gv (W12.first : Int) _ (H13.cell (i := 5) rfl rfl)) ?_
                  refine ops_nil ?_
                  refine ⟨fun hne => (by first | exact H13.cell (i := 3) (o := 4) rfl rfl | (rw [← hks]; exact H13.cell (i := 3) (o := 4) rfl rfl)), ?_⟩
                  refine nZ211 ?_
                  refine mixz_p rfl ?_
                  refine mix1_yes rfl ?_
                  refine mix1_true (fun wz hz => ex_eql rfl rfl) (by omega) ?_
                  refine mixz_p rfl ?_
                  refine mix1_val (fun wz hz => ex_pick_t rfl rfl) ?_
                  refine mixz_p rfl ?_
                  refine mix1_val (fun wz hz => ex_move rfl) ?_
                  refine mixz_p rfl ?_
                  refine mix1_yes rfl ?_
                  refine mix1_val (fun wz hz => ex_move rfl) ?_
                  refine nZ211 ?_
                  refine mixz_p rfl ?_
                  refine mix1_yes rfl ?_
                  refine mix1_val (fun wz hz => ex_nilCheck rfl) ?_
                  refine mixz_p rfl ?_
                  refine mix1_yes rfl ?_
                  refine mix1_val (fun wz hz => ex_fieldAddr fl31_1 rfl) ?_
                  refine mixz_p rfl ?_
                  refine mix1_yes rfl ?_
                  refine mix1_val (fun wz hz => ex_move rfl) ?_
                  refine mixz_p rfl ?_
                  refine mix1_yes rfl ?_
                  refine mix1_val (fun wz hz => ex_nilCheck rfl) ?_
                  refine nZ211 ?_
                  refine mixz_p rfl ?_
                  refine mix1_yes rfl ?_
                  refine mix1_val (fun wz hz => ex_fieldAddr fl31_4 rfl) ?_
                  refine mixz_p rfl ?_
                  refine mix1_yes rfl ?_
                  refine mix1_val (fun wz hz => ex_load ty3 rfl hz) ?_
                  refine mixz_o rfl ?_
                  refine ops_yes rfl ?_
                  refine ops_val (ex_load ty28 rfl (H13.cell (i := 3) rfl rfl)) ?_
                  refine ops_nil ?_
                  refine ⟨fun hne => (by first | exact H13.cell (i := 3) (o := 4) rfl rfl | (rw [← hks]; exact H13.cell (i := 3) (o := 4) rfl rfl)), ?_⟩
                  refine nZ211 ?_
                  refine mixz_o rfl ?_
                  refine ops_yes rfl ?_
                  refine ops_call_val (ex_call gf15 rfl) (next_any q10.gv W12.first W12.recs.length q10.cr (hd q10.gr) _ (H13.cell (i := 5) rfl rfl) (H13.cell (i := 5) rfl rfl) (by omega)) ?_
                  intro w14 Hd
                  have H14 := H13.callN Hd
                  refine ops_nil ?_
                  refine ⟨fun hne => (by first | exact H14.cell (i := 3) (o := 4) rfl rfl | (rw [← hks]; exact H14.cell (i := 3) (o := 4) rfl rfl)), ?_⟩
                  refine nZ211 ?_
                  refine mixz_p rfl ?_
                  refine mix1_yes rfl ?_
                  refine mix1_true (fun wz hz => ex_geq rfl rfl) (by omega) ?_
                  refine mixz_p rfl ?_
                  refine mix1_val (fun wz hz => ex_pick_t rfl rfl) ?_
                  refine mixz_o rfl ?_
                  refine ops_val (ex_assign rfl) ?_
                  refine ops_nil ?_
                  refine ⟨fun hne => absurd rfl hne, ?_⟩
                  refine nZ211 ?_
                  refine mixz_nil ?_
                  refine nR211 ?_
                  refine run_ret ?_
                  refine fin_ret1 rfl rfl ?_
                  exact ⟨rfl, (HB.all H14).noRows⟩
            · skip
              refine ops_yes rfl ?_
              refine ops_val (ex_not rfl) ?_
              refine ops_val (ex_pick_t rfl rfl) ?_
              refine ops_nil ?_
              refine nR211 ?_
              refine run_cond_true rfl ?_
              refine run_skip ?_
              refine run_seq ?_
              refine run_block ?_
              refine run_seq ?_
              refine run_region ?_
              refine ops_val (ex_move rfl) ?_
              refine ops_val (ex_move rfl) ?_
              obtain ⟨pa, rfl⟩ := hA1.some_ (by omega)
              refine ops_val (ex_idx Try.underlying29 ty34 rfl rfl rfl hix (Nat.mul_one _)) ?_
              refine ops_val (ex_load ty34 rfl ((hA1.to0 (HB.all H9)).cells pa rfl i2 _ hzi)) ?_
              refine nO211 ?_
              refine ops_val (ex_len_slice Try.underlying34 rfl) ?_
              refine ops_test (ex_leq rfl rfl) (fun hp117 => ?_) (fun hp117 => ?_)
              · have h300 : bs1[i2].length ≤ 300 := by omega
                refine ops_val (ex_move rfl) ?_
                refine nO211 ?_
                refine ops_yes rfl ?_
                refine ops_val (ex_move rfl) ?_
                refine ops_yes rfl ?_
                refine ops_val (ex_move rfl) ?_
                refine nO211 ?_
                refine ops_yes rfl ?_
                refine ops_val (ex_move rfl) ?_
                refine ops_yes rfl ?_
                refine ops_val (ex_idx Try.underlying29 ty34 rfl rfl rfl hix (Nat.mul_one _)) ?_
                refine nO211 ?_
                refine ops_yes rfl ?_
                refine ops_val (ex_load ty34 rfl ((hA1.to0 (HB.all H9)).cells pa rfl i2 _ hzi)) ?_
                refine ops_yes rfl ?_
                have HB : Hp w0 w9 [] (s2.rows ++ []) := HB.all H9
                obtain ⟨hlgU, hdeadU, hagU, _, htuU, hfiU⟩ := har.live hdn
                refine ops_call (ex_call gf14 rfl) (appendB_any s2.m s2.D s2.W s2.k s2.K _ HB.less.here har.ok.less sp0 (by rw [hsz2]; exact hlgU) hdn hdeadU hagU (by omega) (by omega) (by omega) (by omega) Be bs1[i2] ce (hrd.to0 HB) (fun h0 p hp hx => old_not HB.less (rd_lt hrd h0 hp) (fun hx => by cases hx) hx) (by omega)) ?_
                rintro r w10 ⟨hr1, D6, W6, K6, hab, hp⟩
                rw [hr1]
                obtain ⟨s3, hgb3, har, Hc⟩ := har.app hsz2 hdn hab hp
                have HB : Hp w0 w10 [] (s3.rows ++ []) := HB.front Hc
                have H10 := HB.here
                rw [← hgb3]
                refine nO211 ?_
                refine ops_yes rfl ?_
                refine ops_val (ex_not rfl) ?_
                refine ops_val (ex_pick_t rfl rfl) ?_
                refine ops_nil ?_
                refine nR211 ?_
                refine run_cond_false rfl ?_
                refine run_skip ?_
                refine run_nil (blk_normal ?_)
                refine run_region ?_
                refine ops_val (ex_move rfl) ?_
                refine ops_val (ex_add rfl rfl (IntWalk.i64_in _ (by omega))) ?_
                refine ops_val (ex_assign rfl) ?_
                refine ops_nil ?_
                refine nR211 ?_
                refine run_nil (rnd_normal ?_)
                exact ⟨20 - (i2 + 1), by omega, i2 + 1, _, s3, rfl, (fs (fs (fs (fs (fs (fs (fn (fn (fn (fn (fn (fn (fn (fs (fs (fn (fs (fn (fn (fn (fn (fn (fn (fn (fn (fn (fn (fn (fn (fn (fn (fn (fn (fn (fn (fn (fn (fn (fn (fn (fn (fn (fn (fn (fn (fn (fn (fn (fn (fn (fn (fn (fn (fn (fn (fn (fn (fn (fn (fn (fn (fn (fn (fn (fn (fn (fn (fn (fn (fn (fn (fn (fn (fn (fn (fn (fn (fn (fn (fn (fn (fn (fn (fn (fn (fn (fn (fn (fn (fn (fn (fn (fn (fn (fn (fn (fn (fn (fn (fn (fn (fn (fn (fn (fn (fn (fn (fn (fn (fn (fn (fn (fn (fn (fn (fn (fn (fn (fn (fn (fn (fn (fn (fn (fn (fn (fn (fn (fn (fn (fn (fn (fn (fn (fn (fn (fn (fn (fn (fn (fn (fn (fn (fn (fn (fn (fn (fn (fn (fn (fn (fn (fn (fn (fn (fn (fn (fn (fn (fn (fn (fn (fn (fn (fn (fn (fn (fn (fn (fn (fn (fn (fn (fn (fn (fn (fn (fn (fn (fn (fn (fn (fn (fn (fn (fn (fn (fn (fn (fn (fn (fn (fn (fn (fn (fn (fn (fn (fn (fn (fn (fn (fn (fn (fn (fn (fn (fn (fn (fn (fn f0))))))))))))))))))))))))))))))))))))))))))))))))))))))))))))))))))))))))))))))))))))))))))))))))))))))))))))))))))))))))))))))))))))))))))))))))))))))))))))))))))))))))))))))))))))))))))))))))))))))))))))))))))), by omega, by omega, rfl, har, HB⟩
              · skip
                refine ops_val (ex_move rfl) ?_
                refine nO211 ?_
                refine ops_no rfl ?_
                refine ops_no rfl ?_
                refine nO211 ?_
                refine ops_no rfl ?_
                refine ops_no rfl ?_
                refine nO211 ?_
                refine ops_no rfl ?_
                refine ops_no rfl ?_
                refine nO211 ?_
                refine ops_no rfl ?_
                refine ops_val (ex_pick_f rfl rfl) ?_
                refine ops_nil ?_
                refine nR211 ?_
                refine run_cond_false rfl ?_
                refine run_skip ?_
                refine run_nil (blk_normal ?_)
                refine run_region ?_
                refine ops_val (ex_move rfl) ?_
                refine ops_val (ex_add rfl rfl (IntWalk.i64_in _ (by omega))) ?_
                refine ops_val (ex_assign rfl) ?_
                refine ops_nil ?_
                refine nR211 ?_
                refine run_nil (rnd_normal ?_)
                exact ⟨20 - (i2 + 1), by omega, i2 + 1, _, s2, rfl, (fs (fs (fs (fs (fs (fs (fn (fn (fn (fn (fn (fn (fn (fs (fs (fn (fs (fn (fn (fn (fn (fn (fn (fn (fn (fn (fn (fn (fn (fn (fn (fn (fn (fn (fn (fn (fn (fn (fn (fn (fn (fn (fn (fn (fn (fn (fn (fn (fn (fn (fn (fn (fn (fn (fn (fn (fn (fn (fn (fn (fn (fn (fn (fn (fn (fn (fn (fn (fn (fn (fn (fn (fn (fn (fn (fn (fn (fn (fn (fn (fn (fn (fn (fn (fn (fn (fn (fn (fn (fn (fn (fn (fn (fn (fn (fn (fn (fn (fn (fn (fn (fn (fn (fn (fn (fn (fn (fn (fn (fn (fn (fn (fn (fn (fn (fn (fn (fn (fn (fn (fn (fn (fn (fn (fn (fn (fn (fn (fn (fn (fn (fn (fn (fn (fn (fn (fn (fn (fn (fn (fn (fn (fn (fn (fn (fn (fn (fn (fn (fn (fn (fn (fn (fn (fn (fn (fn (fn (fn (fn (fn (fn (fn (fn (fn (fn (fn (fn (fn (fn (fn (fn (fn (fn (fn (fn (fn (fn (fn (fn (fn (fn (fn (fn (fn (fn (fn (fn (fn (fn (fn (fn (fn (fn (fn (fn (fn (fn (fn (fn (fn (fn (fn (fn (fn (fn (fn (fn (fn (fn (fn f0))))))))))))))))))))))))))))))))))))))))))))))))))))))))))))))))))))))))))))))))))))))))))))))))))))))))))))))))))))))))))))))))))))))))))))))))))))))))))))))))))))))))))))))))))))))))))))))))))))))))))))))))))), by omega, by omega, rfl, { har with wait := by omega, next := ⟨hnx2.1, by omega⟩ }, HB.all H9⟩
          · skip
            refine ops_val (ex_pick_t rfl rfl) ?_
            refine ops_val (ex_move rfl) ?_
            refine nO211 ?_
            refine ops_no rfl ?_
            refine ops_no rfl ?_
            refine nO211 ?_
            refine ops_no rfl ?_
            refine ops_no rfl ?_
            refine nO211 ?_
            refine ops_no rfl ?_
            refine ops_no rfl ?_
            refine ops_val (ex_pick_f rfl rfl) ?_
            refine ops_nil ?_
            refine nR211 ?_
            refine run_cond_false rfl ?_
            refine run_exit ?_
            refine rnd_exit ?_
            refine blk_exit ?_
            refine run_seq ?_
            refine run_region ?_
            refine ops_val (ex_move rfl) ?_
            refine ops_val (ex_nilCheck rfl) ?_
            refine ops_val (ex_fieldAddr fl31_0 rfl) ?_
            refine ops_val (ex_load ty27 rfl (H9.cell (i := 6) rfl rfl)) ?_
            refine nO211 ?_
            refine ops_val (ex_move rfl) ?_
            have HB : Hp w0 w9 [] (s2.rows ++ []) := HB.all H9
            have HD : Hp w0 w9 [] (dRows s2.m.gd s2.m.gk s2.m.gw s2.m.cw s2.m.sp s2.D) := HB.less.less.less
            refine ops_call (ex_call gf25 rfl) (crash_any s2.m.gd s2.m.gk s2.m.gw s2.m.cw s2.m.sp s2.D _ HD.here har.ok.ok.d A4 ks c4 (hA4.to0 HB) (fun h0 p hp hx => old_not HD (ks_lt hA4 h0 hp) (fun hx => by cases hx) hx) (by omega)) ?_
            rintro r w10 ⟨hr, hp⟩
            rw [hr]
            have hF2 := hF1.fall har.kept har.fresh ks
            obtain ⟨q4, he, Hd⟩ := har.ok.bare.disk hp
            obtain ⟨D7, hD7⟩ : ∃ D', s2.D.crash ks = D' := ⟨_, rfl⟩
            rw [hD7] at he Hd hF2
            have HB : Hp w0 w10 [] (eRows (md s2.m q4) D7 s2.k s2.K) := (Hp.front3 (a := dRows s2.m.gd s2.m.gk s2.m.gw s2.m.cw s2.m.sp s2.D) (b := lRows s2.m s2.W) (d := kRows s2.m s2.k s2.K) (R := []) HB Hd).pick [0, 1, 2, 6, 7] (by decide)
            have H10 := HB.here
            refine ops_nil ?_
            refine nR211 ?_
            refine run_seq ?_
            refine run_seq ?_
            refine run_region ?_
            refine ops_val (ex_assign rfl) ?_
            refine ops_nil ?_
            refine nR211 ?_
            refine run_block ?_
            refine run_loop (fun n l w => ∃ (i3 : Nat) (y3 : Int) (q5 : Mw) (D8 : Dk), 5 - i3 = n ∧ Fits [some (.slice A bs.length c), some (.slice A1 bs1.length c1), some (.int .i64 a2), some (.int .i64 a3), some (.slice A4 ks.length c4), some (.slice A5 xs.length c5), none, none, none, none, none, none, none, some (.pointer (some ⟨s2.k.gb, 0, none⟩)), some (.int .i64 (nn : Int)), none, none, some (.int .i64 y3), none, none, none, none, none, none, none, none, none, none, none, none, none, none, none, none, none, none, none, none, none, none, none, none, none, none, none, none, none, none, none, none, none, none, none, none, none, none, none, none, none, none, none, none, none, none, none, none, none, none, none, none, none, none, none, none, none, none, none, none, none, none, none, none, none, none, none, none, none, none, none, none, none, none, none, none, none, none, none, none, none, none, none, none, none, none, none, none, none, none, none, none, none, none, none, none, none, none, none, none, none, none, none, none, none, none, none, none, none, none, none, none, none, none, none, none, none, none, none, none, none, none, none, none, none, none, none, none, none, none, none, none, none, none, none, none, none, none, none, none, none, none, none, none, none, none, none, none, none, none, none, none, none, none, none, none, none, none, none, none, none, none, none, none, none, none, none, none, none, none, none, none, none, none, none, none, none, none, none, none, none, none, none, none, none, none, none, none, none, none, none, none, none] l ∧ y3 = (i3 : Int) ∧ i3 ≤ 5 ∧ EOk w (md s2.m q5) D8 s2.k s2.K ∧ Fal D8 1024 W3 sp0 ∧ Hp w0 w [] (eRows (md s2.m q5) D8 s2.k s2.K)) (5) ?_ ?_
            · exact ⟨0, _, q4, D7, rfl, (fs (fs (fs (fs (fs (fs (fn (fn (fn (fn (fn (fn (fn (fs (fs (fn (fn (fs (fn (fn (fn (fn (fn (fn (fn (fn (fn (fn (fn (fn (fn (fn (fn (fn (fn (fn (fn (fn (fn (fn (fn (fn (fn (fn (fn (fn (fn (fn (fn (fn (fn (fn (fn (fn (fn (fn (fn (fn (fn (fn (fn (fn (fn (fn (fn (fn (fn (fn (fn (fn (fn (fn (fn (fn (fn (fn (fn (fn (fn (fn (fn (fn (fn (fn (fn (fn (fn (fn (fn (fn (fn (fn (fn (fn (fn (fn (fn (fn (fn (fn (fn (fn (fn (fn (fn (fn (fn (fn (fn (fn (fn (fn (fn (fn (fn (fn (fn (fn (fn (fn (fn (fn (fn (fn (fn (fn (fn (fn (fn (fn (fn (fn (fn (fn (fn (fn (fn (fn (fn (fn (fn (fn (fn (fn (fn (fn (fn (fn (fn (fn (fn (fn (fn (fn (fn (fn (fn (fn (fn (fn (fn (fn (fn (fn (fn (fn (fn (fn (fn (fn (fn (fn (fn (fn (fn (fn (fn (fn (fn (fn (fn (fn (fn (fn (fn (fn (fn (fn (fn (fn (fn (fn (fn (fn (fn (fn (fn (fn (fn (fn (fn (fn (fn (fn (fn (fn (fn (fn (fn (fn (fn f0))))))))))))))))))))))))))))))))))))))))))))))))))))))))))))))))))))))))))))))))))))))))))))))))))))))))))))))))))))))))))))))))))))))))))))))))))))))))))))))))))))))))))))))))))))))))))))))))))))))))))))))))))), rfl, Nat.zero_le _, he, hF2, HB.all H10⟩
            · rintro n l w11 ⟨i3, y3, q5, D8, rfl, hfit, rfl, hi3, he, hF3, H11⟩
              obtain ⟨j, rfl⟩ := hfit.open
              refine nR211 ?_
              clear hfit
              have HB := H11
              replace H11 := HB.here
              refine run_seq ?_
              refine run_seq ?_
              refine run_region ?_
              refine ops_val (ex_move rfl) ?_
              refine ops_val (ex_move rfl) ?_
              refine ops_val (ex_len_slice Try.underlying22 rfl) ?_
              refine ops_test (ex_lss rfl rfl) (fun hp136 => ?_) (fun hp136 => ?_)
              · have hx5 : i3 < xs.length := by omega
                refine ops_val (ex_move rfl) ?_
                refine nO211 ?_
                refine ops_yes rfl ?_
                refine ops_val (ex_move rfl) ?_
                refine ops_yes rfl ?_
                refine ops_test (ex_lss rfl rfl) (fun hp139 => ?_) (fun hp139 => ?_)
                · have hm5 : i3 < 5 := by omega
                  refine ops_val (ex_pick_t rfl rfl) ?_
                  refine ops_nil ?_
                  refine nR211 ?_
                  refine run_cond_true rfl ?_
                  refine run_skip ?_
                  refine run_seq ?_
                  refine run_block ?_
                  refine run_seq ?_
                  refine run_region ?_
                  refine ops_val (ex_move rfl) ?_
                  refine ops_val (ex_nilCheck rfl) ?_
                  refine ops_val (ex_fieldAddr fl31_0 rfl) ?_
                  refine ops_val (ex_load ty27 rfl (H11.cell (i := 3) rfl rfl)) ?_
                  refine nO211 ?_
                  have HB : Hp w0 w11 [] (eRows (md s2.m q5) D8 s2.k s2.K) := HB.all H11
                  refine ops_call (ex_call gf28 rfl) (start_any (md s2.m q5).gd (md s2.m q5).gk (md s2.m q5).gw (md s2.m q5).cw (md s2.m q5).sp D8 _ HB.less.here he.d) ?_
                  rintro r w12 ⟨hr, hp⟩
                  rw [hr]
                  obtain ⟨q6, he, Hd⟩ := he.disk (m := md s2.m q5) hp
                  obtain ⟨D9, hD9⟩ : ∃ D', D8.start = D' := ⟨_, rfl⟩
                  rw [hD9] at he Hd
                  obtain ⟨hF3, hd3⟩ := hF3.start
                  rw [hD9] at hF3 hd3
                  have HB : Hp w0 w12 [] (eRows (md s2.m q6) D9 s2.k s2.K) := HB.front Hd
                  have H12 := HB.here
                  refine ops_nil ?_
                  refine nR211 ?_
                  refine run_seq ?_
                  refine run_mixZ 12 [(true, 0), (true, 1), (true, 2), (true, 3), (true, 4), (true, 5), (true, 6), (true, 7), (true, 8), (true, 9), (true, 10), (true, 11), (false, 12)] H12 [3] mixed (by decide) (by kernel_rfl) ?_
                  rintro w13 hw13
                  have H13 := Hp.drew H12; rw [← hw13] at H13
                  refine mixz_p rfl ?_
                  refine mix1_val (fun wz hz => ex_move rfl) ?_
                  refine mixz_p rfl ?_
                  refine mix1_val (fun wz hz => ex_nilCheck rfl) ?_
                  refine mixz_p rfl ?_
                  refine mix1_val (fun wz hz => ex_fieldAddr fl31_0 rfl) ?_
                  refine mixz_p rfl ?_
                  refine mix1_val (fun wz hz => ex_load ty27 rfl (hz.cell (i := 0) rfl rfl)) ?_
                  refine nZ211 ?_
                  refine mixz_p rfl ?_
                  refine mix1_val (fun wz hz => ex_move rfl) ?_
                  refine mixz_p rfl ?_
                  refine mix1_val (fun wz hz => ex_move rfl) ?_
                  refine mixz_p rfl ?_
                  obtain ⟨pb, rfl⟩ := hA5.some_ (by omega)
                  refine mix1_val (fun wz hz => ex_idx Try.underlying22 ty3 rfl rfl rfl hx5 (Nat.mul_one _)) ?_
                  refine mixz_p rfl ?_
                  refine mix1_val (fun wz hz => ex_load ty3 rfl ((hA5.to0 (HB.all hz)).cells pb rfl i3 _ (i64s_get hx5))) ?_
                  refine nZ211 ?_
                  refine mixz_p rfl ?_
                  obtain ⟨u3, huu3⟩ := u64_nat xs[i3]
                  refine mix1_val (fun wz hz => ex_conv Try.underlying23 Try.underlying3 rfl huu3) ?_
                  refine mixz_p rfl ?_
                  refine mix1_val (fun wz hz => ex_rem rfl rfl (by omega) (tmodN u3 9)) ?_
                  have h9 : u3 % 9 < 9 := Nat.mod_lt _ (by decide)
                  generalize u3 % 9 = n9 at h9
                  refine mixz_p rfl ?_
                  refine mix1_val (fun wz hz => ex_conv Try.underlying3 Try.underlying23 rfl (IntWalk.i64_in _ (by omega))) ?_
                  refine mixz_p rfl ?_
                  refine mix1_val (fun wz hz => ex_add rfl rfl (IntWalk.i64_in _ (by omega))) ?_
                  refine nZ211 ?_
                  refine mixz_o rfl ?_
                  replace he : EOk w13 (md s2.m q6) D9 s2.k s2.K := he.keep0 (es := []) (by rw [‹w13 = _›]; exact Hp.drewW _)
                  have HB : Hp w0 w13 [] (eRows (md s2.m q6) D9 s2.k s2.K) := HB.all H13
                  refine ops_call (ex_call gf26 rfl) (arm_any (md s2.m q6).gd (md s2.m q6).gk (md s2.m q6).gw (md s2.m q6).cw (md s2.m q6).sp D9 _ HB.less.here he.d (1 + (n9 : Int)) (by omega) (by omega)) ?_
                  rintro r w14 ⟨hr, hp⟩
                  rw [hr]
                  obtain ⟨q7, he, Hd⟩ := he.disk (m := md s2.m q6) hp
                  obtain ⟨D10, hD10⟩ : ∃ D', (D9.arm (1 + (n9 : Int))).1 = D' := ⟨_, rfl⟩
                  rw [hD10] at he Hd
                  obtain ⟨hF3, hd3⟩ := hF3.arm hd3 (1 + (n9 : Int))
                  rw [hD10] at hF3 hd3
                  have HB : Hp w0 w14 [] (eRows (md s2.m q7) D10 s2.k s2.K) := HB.front Hd
                  have H14 := HB.here
                  refine ops_nil ?_
                  refine ⟨fun hne => absurd rfl hne, ?_⟩
                  refine nZ211 ?_
                  refine mixz_nil ?_
                  refine nR211 ?_
                  refine run_seq ?_
                  refine run_region ?_
                  refine ops_val (ex_move rfl) ?_
                  refine ops_val (ex_nilCheck rfl) ?_
                  refine ops_val (ex_fieldAddr fl31_0 rfl) ?_
                  refine ops_val (ex_load ty27 rfl (H14.cell (i := 3) rfl rfl)) ?_
                  refine nO211 ?_
                  have HB : Hp w0 w14 [] (eRows (md s2.m q7) D10 s2.k s2.K) := HB.all H14
                  refine ops_call (ex_call gf18 rfl) (openF_any (md s2.m q7) D10 s2.k s2.K 1024 sp0 W3 _ HB.less.here he (lt_rest HB) hF3 hd3 htd3 (by omega) (by omega)) ?_
                  rintro r w15 ⟨q8, W8, hr, he, _, Hc, _, _⟩
                  rw [hr]
                  have HB : Hp w0 w15 [] (eRows (md s2.m q8) D10 s2.k s2.K) := (HB.front Hc).pick [0, 1, 2, 6, 7] (by decide)
                  have H15 := HB.here
                  refine ops_val (ex_move rfl) ?_
                  refine ops_val (ex_extract rfl rfl) ?_
                  refine ops_val (ex_extract rfl rfl) ?_
                  refine nO211 ?_
                  refine ops_val (ex_assign rfl) ?_
                  refine ops_val (ex_assign rfl) ?_
                  refine ops_nil ?_
                  refine nR211 ?_
                  refine run_seq ?_
                  refine run_seq ?_
                  refine run_region ?_
                  refine ops_val (ex_move rfl) ?_
                  refine ops_false (ex_neq rfl rfl) (by decide) ?_
                  refine ops_val (ex_move rfl) ?_
                  refine nO211 ?_
                  refine ops_no rfl ?_
                  refine ops_no rfl ?_
                  refine ops_val (ex_pick_f rfl rfl) ?_
                  refine ops_val (ex_move rfl) ?_
                  refine nO211 ?_
                  refine ops_yes rfl ?_
                  refine ops_val (ex_move rfl) ?_
                  refine ops_yes rfl ?_
                  refine ops_true (ex_neq_nil_ptr Try.underlying28 rfl) (by simp) ?_
                  refine nO211 ?_
                  refine ops_yes rfl ?_
                  refine ops_val (ex_move rfl) ?_
                  refine ops_yes rfl ?_
                  refine ops_true (ex_eql rfl rfl) (by decide) ?_
                  refine nO211 ?_
                  refine ops_yes rfl ?_
                  refine ops_false (ex_neq_bool Try.underlying4 rfl rfl) (by simp) ?_
                  refine ops_val (ex_pick_f rfl rfl) ?_
                  refine ops_nil ?_
                  refine nR211 ?_
                  refine run_cond_false rfl ?_
                  refine run_skip ?_
                  refine run_region ?_
                  refine ops_val (ex_move rfl) ?_
                  refine ops_val (ex_nilCheck rfl) ?_
                  refine ops_val (ex_fieldAddr fl31_0 rfl) ?_
                  refine ops_val (ex_load ty27 rfl (H15.cell (i := 3) rfl rfl)) ?_
                  refine nO211 ?_
                  refine ops_val (ex_move rfl) ?_
                  have HB : Hp w0 w15 [] (eRows (md s2.m q8) D10 s2.k s2.K) := HB.all H15
                  refine ops_call (ex_call gf25 rfl) (crash_any (md s2.m q8).gd (md s2.m q8).gk (md s2.m q8).gw (md s2.m q8).cw (md s2.m q8).sp D10 _ HB.less.here he.d A4 ks c4 (hA4.to0 HB) (fun h0 p hp hx => old_not HB.less (ks_lt hA4 h0 hp) (fun hx => by cases hx) hx) (by rw [hF3.wait]; decide)) ?_
                  rintro r w16 ⟨hr, hp⟩
                  rw [hr]
                  obtain ⟨q9, he, Hd⟩ := he.disk (m := md s2.m q8) hp
                  obtain ⟨D11, hD11⟩ : ∃ D', D10.crash ks = D' := ⟨_, rfl⟩
                  rw [hD11] at he Hd
                  have hF3 := hF3.crash ks
                  rw [hD11] at hF3
                  have HB : Hp w0 w16 [] (eRows (md s2.m q9) D11 s2.k s2.K) := HB.front Hd
                  have H16 := HB.here
                  refine ops_nil ?_
                  refine nR211 ?_
                  refine run_nil (blk_normal ?_)
                  refine run_region ?_
                  refine ops_val (ex_move rfl) ?_
                  refine ops_val (ex_add rfl rfl (IntWalk.i64_in _ (by omega))) ?_
                  refine ops_val (ex_assign rfl) ?_
                  refine ops_nil ?_
                  refine nR211 ?_
                  refine run_nil (rnd_normal ?_)
                  exact ⟨5 - (i3 + 1), by omega, i3 + 1, _, q9, D11, rfl, (fs (fs (fs (fs (fs (fs (fn (fn (fn (fn (fn (fn (fn (fs (fs (fn (fn (fs (fn (fn (fn (fn (fn (fn (fn (fn (fn (fn (fn (fn (fn (fn (fn (fn (fn (fn (fn (fn (fn (fn (fn (fn (fn (fn (fn (fn (fn (fn (fn (fn (fn (fn (fn (fn (fn (fn (fn (fn (fn (fn (fn (fn (fn (fn (fn (fn (fn (fn (fn (fn (fn (fn (fn (fn (fn (fn (fn (fn (fn (fn (fn (fn (fn (fn (fn (fn (fn (fn (fn (fn (fn (fn (fn (fn (fn (fn (fn (fn (fn (fn (fn (fn (fn (fn (fn (fn (fn (fn (fn (fn (fn (fn (fn (fn (fn (fn (fn (fn (fn (fn (fn (fn (fn (fn (fn (fn (fn (fn (fn (fn (fn (fn (fn (fn (fn (fn (fn (fn (fn (fn (fn (fn (fn (fn (fn (fn (fn (fn (fn (fn (fn (fn (fn (fn (fn (fn (fn (fn (fn (fn (fn (fn (fn (fn (fn (fn (fn (fn (fn (fn (fn (fn (fn (fn (fn (fn (fn (fn (fn (fn (fn (fn (fn (fn (fn (fn (fn (fn (fn (fn (fn (fn (fn (fn (fn (fn (fn (fn (fn (fn (fn (fn (fn (fn (fn (fn (fn (fn (fn (fn (fn f0))))))))))))))))))))))))))))))))))))))))))))))))))))))))))))))))))))))))))))))))))))))))))))))))))))))))))))))))))))))))))))))))))))))))))))))))))))))))))))))))))))))))))))))))))))))))))))))))))))))))))))))))))), by omega, by omega, he, hF3, HB.all H16⟩
                · skip
                  refine ops_val (ex_pick_t rfl rfl) ?_
                  refine ops_nil ?_
                  refine nR211 ?_
                  refine run_cond_false rfl ?_
                  refine run_exit ?_
                  refine rnd_exit ?_
                  refine blk_exit ?_
                  refine run_seq ?_
                  refine run_mixS 23 [(true, 0), (false, 1), (true, 2), (true, 3), (true, 4), (true, 5), (true, 8), (false, 6), (false, 7), (true, 9), (true, 10), (true, 11), (true, 12), (true, 13), (true, 14), (true, 17), (true, 18), (true, 19), (true, 20), (false, 15), (false, 16), (true, 21), (true, 22), (false, 23)] (fun wz => wz.cell? ⟨s2.k.gb, 4, none⟩ = some (.int .i64 (s2.K.safe : Int))) mixed (by kernel_rfl) ?_
                  rintro w12 hw12
                  have H12 := Hp.drew H11; rw [← hw12] at H12
                  refine ⟨(by first | exact H12.cell (i := 3) (o := 4) rfl rfl | (rw [← hks]; exact H12.cell (i := 3) (o := 4) rfl rfl)), ?_⟩
                  refine mixz_p rfl ?_
                  refine mix1_val (fun wz hz => ex_move rfl) ?_
                  refine mixz_o rfl ?_
                  have HB : Hp w0 w12 [] (eRows (md s2.m q5) D8 s2.k s2.K) := HB.all H12
                  replace he : EOk w12 (md s2.m q5) D8 s2.k s2.K := he.keep0 (es := []) (by rw [‹w12 = _›]; exact Hp.drewW _)
                  have hpre : s2.K.all.take s.K.all.length = s.K.all := har.pre
                  have hnx0 : s.K.all.length = W3.first + W3.recs.length := hag3.next
                  have hsf0 : s2.K.safe = s.K.all.length := har.safe
                  have hff0 : s2.K.first = nn := har.first
                  have hrcO : W3.recs = (s2.K.all.drop W3.first).take W3.recs.length := by
                    have h1 : W3.recs = s.K.all.drop W3.first := hag3.recs
                    have e : (s2.K.all.take s.K.all.length).drop W3.first = (s2.K.all.drop W3.first).take (s.K.all.length - W3.first) := List.drop_take ..
                    rw [hpre, ← h1, hnx0, Nat.add_sub_cancel_left] at e
                    exact e
                  have hlO := hnx2.1
                  have hlO : s.K.all.length ≤ s2.K.all.length := hlO
                  refine ops_call (ex_call gf29 rfl) (openB_any (md s2.m q5) D8 s2.k s2.K 1024 sp0 W3 _ HB.here he hF3 htd3 (by omega) (by omega) hrcO (by omega) (by omega) (by omega)) ?_
                  rintro r w13 ⟨hr, q10, D12, W12, k12, K12, hfO, hrO, hgO, hks, Hc⟩
                  rw [hr]
                  replace hks : K12.safe = s2.K.safe := by omega
                  have hlW : W12.recs.length = W3.recs.length := by rw [hrO]
                  have HB := (HB.all Hc).pick [2, 3, 4, 0, 1, 5, 6, 7] (by decide)
                  have H13 := HB.here
                  rw [← hgO]
                  refine ops_nil ?_
                  refine ⟨fun hne => (by first | exact H13.cell (i := 3) (o := 4) rfl rfl | (rw [← hks]; exact H13.cell (i := 3) (o := 4) rfl rfl)), ?_⟩
                  refine nZ211 ?_
                  refine mixz_p rfl ?_
                  refine mix1_val (fun wz hz => ex_move rfl) ?_
                  refine mixz_p rfl ?_
                  refine mix1_yes rfl ?_
                  refine mix1_val (fun wz hz => ex_move rfl) ?_
                  refine mixz_p rfl ?_
                  refine mix1_yes rfl ?_
                  refine mix1_val (fun wz hz => ex_nilCheck rfl) ?_
                  refine mixz_p rfl ?_
                  refine mix1_yes rfl ?_
                  refine mix1_val (fun wz hz => ex_fieldAddr fl31_1 rfl) ?_
                  refine nZ211 ?_
                  refine mixz_p rfl ?_
                  refine mix1_yes rfl ?_
                  refine mix1_val (fun wz hz => ex_move rfl) ?_
                  refine mixz_o rfl ?_
                  refine ops_yes rfl ?_
                  refine ops_val (ex_load ty28 rfl (H13.cell (i := 3) rfl rfl)) ?_
                  refine ops_nil ?_
                  refine ⟨fun hne => (by first | exact H13.cell (i := 3) (o := 4) rfl rfl | (rw [← hks]; exact H13.cell (i := 3) (o := 4) rfl rfl)), ?_⟩
                  refine nZ211 ?_
                  refine mixz_o rfl ?_
                  refine ops_yes rfl ?_
                  refine ops_call_eq (ex_call gf19 rfl) (first_p q10.gv (W12.first : Int) _ (H13.cell (i := 5) rfl rfl)) ?_
                  refine ops_nil ?_
                  refine ⟨fun hne => (by first | exact H13.cell (i := 3) (o := 4) rfl rfl | (rw [← hks]; exact H13.cell (i := 3) (o := 4) rfl rfl)), ?_⟩
                  refine nZ211 ?_
                  refine mixz_p rfl ?_
                  refine mix1_yes rfl ?_
                  refine mix1_true (fun wz hz => ex_eql rfl rfl) (by omega) ?_
                  refine mixz_p rfl ?_
                  refine mix1_val (fun wz hz => ex_pick_t rfl rfl) ?_
                  refine mixz_p rfl ?_
                  refine mix1_val (fun wz hz => ex_move rfl) ?_
                  refine mixz_p rfl ?_
                  refine mix1_yes rfl ?_
                  refine mix1_val (fun wz hz => ex_move rfl) ?_
                  refine nZ211 ?_
                  refine mixz_p rfl ?_
                  refine mix1_yes rfl ?_
                  refine mix1_val (fun wz hz => ex_nilCheck rfl) ?_
                  refine mixz_p rfl ?_
                  refine mix1_yes rfl ?_
                  refine mix1_val (fun wz hz => ex_fieldAddr fl31_1 rfl) ?_
                  refine mixz_p rfl ?_
                  refine mix1_yes rfl ?_
                  refine mix1_val (fun wz hz => ex_move rfl) ?_
                  refine mixz_p rfl ?_
                  refine mix1_yes rfl ?_
                  refine mix1_val (fun wz hz => ex_nilCheck rfl) ?_
                  refine nZ211 ?_
                  refine mixz_p rfl ?_
                  refine mix1_yes rfl ?_
                  refine mix1_val (fun wz hz => ex_fieldAddr fl31_4 rfl) ?_
                  refine mixz_p rfl ?_
                  refine mix1_yes rfl ?_
                  refine mix1_val (fun wz hz => ex_load ty3 rfl hz) ?_
                  refine mixz_o rfl ?_
                  refine ops_yes rfl ?_
                  refine ops_val (ex_load ty28 rfl (H13.cell (i := 3) rfl rfl)) ?_
                  refine ops_nil ?_
                  refine ⟨fun hne => (by first | exact H13.cell (i := 3) (o := 4) rfl rfl | (rw [← hks]; exact H13.cell (i := 3) (o := 4) rfl rfl)), ?_⟩
                  refine nZ211 ?_
                  refine mixz_o rfl ?_
                  refine ops_yes rfl ?_
                  refine ops_call_val (ex_call gf15 rfl) (next_any q10.gv W12.first W12.recs.length q10.cr (hd q10.gr) _ (H13.cell (i := 5) rfl rfl) (H13.cell (i := 5) rfl rfl) (by omega)) ?_
                  intro w14 Hd
                  have H14 := H13.callN Hd
                  refine ops_nil ?_
                  refine ⟨fun hne => (by first | exact H14.cell (i := 3) (o := 4) rfl rfl | (rw [← hks]; exact H14.cell (i := 3) (o := 4) rfl rfl)), ?_⟩
                  refine nZ211 ?_
                  refine mixz_p rfl ?_
                  refine mix1_yes rfl ?_
                  refine mix1_true (fun wz hz => ex_geq rfl rfl) (by omega) ?_
                  refine mixz_p rfl ?_
                  refine mix1_val (fun wz hz => ex_pick_t rfl rfl) ?_
                  refine mixz_o rfl ?_
                  refine ops_val (ex_assign rfl) ?_
                  refine ops_nil ?_
                  refine ⟨fun hne => absurd rfl hne, ?_⟩
                  refine nZ211 ?_
                  refine mixz_nil ?_
                  refine nR211 ?_
                  refine run_ret ?_
                  refine fin_ret1 rfl rfl ?_
                  exact ⟨rfl, (HB.all H14).noRows⟩
              · skip
                refine ops_val (ex_move rfl) ?_
                refine nO211 ?_
                refine ops_no rfl ?_
                refine ops_no rfl ?_
                refine ops_val (ex_pick_f rfl rfl) ?_
                refine ops_nil ?_
                refine nR211 ?_
                refine run_cond_false rfl ?_
                refine run_exit ?_
                refine rnd_exit ?_
                refine blk_exit ?_
                refine run_seq ?_
                refine run_mixS 23 [(true, 0), (false, 1), (true, 2), (true, 3), (true, 4), (true, 5), (true, 8), (false, 6), (false, 7), (true, 9), (true, 10), (true, 11), (true, 12), (true, 13), (true, 14), (true, 17), (true, 18), (true, 19), (true, 20), (false, 15), (false, 16), (true, 21), (true, 22), (false, 23)] (fun wz => wz.cell? ⟨s2.k.gb, 4, none⟩ = some (.int .i64 (s2.K.safe : Int))) mixed (by kernel_rfl) ?_
                rintro w12 hw12
                have H12 := Hp.drew H11; rw [← hw12] at H12
                refine ⟨(by first | exact H12.cell (i := 3) (o := 4) rfl rfl | (rw [← hks]; exact H12.cell (i := 3) (o := 4) rfl rfl)), ?_⟩
                refine mixz_p rfl ?_
                refine mix1_val (fun wz hz => ex_move rfl) ?_
                refine mixz_o rfl ?_
                have HB : Hp w0 w12 [] (eRows (md s2.m q5) D8 s2.k s2.K) := HB.all H12
                replace he : EOk w12 (md s2.m q5) D8 s2.k s2.K := he.keep0 (es := []) (by rw [‹w12 = _›]; exact Hp.drewW _)
                have hpre : s2.K.all.take s.K.all.length = s.K.all := har.pre
                have hnx0 : s.K.all.length = W3.first + W3.recs.length := hag3.next
                have hsf0 : s2.K.safe = s.K.all.length := har.safe
                have hff0 : s2.K.first = nn := har.first
                have hrcO : W3.recs = (s2.K.all.drop W3.first).take W3.recs.length := by
                  have h1 : W3.recs = s.K.all.drop W3.first := hag3.recs
                  have e : (s2.K.all.take s.K.all.length).drop W3.first = (s2.K.all.drop W3.first).take (s.K.all.length - W3.first) := List.drop_take ..
                  rw [hpre, ← h1, hnx0, Nat.add_sub_cancel_left] at e
                  exact e
                have hlO := hnx2.1
                have hlO : s.K.all.length ≤ s2.K.all.length := hlO
                refine ops_call (ex_call gf29 rfl) (openB_any (md s2.m q5) D8 s2.k s2.K 1024 sp0 W3 _ HB.here he hF3 htd3 (by omega) (by omega) hrcO (by omega) (by omega) (by omega)) ?_
                rintro r w13 ⟨hr, q10, D12, W12, k12, K12, hfO, hrO, hgO, hks, Hc⟩
                rw [hr]
                replace hks : K12.safe = s2.K.safe := by omega
                have hlW : W12.recs.length = W3.recs.length := by rw [hrO]
                have HB := (HB.all Hc).pick [2, 3, 4, 0, 1, 5, 6, 7] (by decide)
                have H13 := HB.here
                rw [← hgO]
                refine ops_nil ?_
                refine ⟨fun hne => (by first | exact H13.cell (i := 3) (o := 4) rfl rfl | (rw [← hks]; exact H13.cell (i := 3) (o := 4) rfl rfl)), ?_⟩
                refine nZ211 ?_
                refine mixz_p rfl ?_
                refine mix1_val (fun wz hz => ex_move rfl) ?_
                refine mixz_p rfl ?_
                refine mix1_yes rfl ?_
                refine mix1_val (fun wz hz => ex_move rfl) ?_
                refine mixz_p rfl ?_
                refine mix1_yes rfl ?_
                refine mix1_val (fun wz hz => ex_nilCheck rfl) ?_
                refine mixz_p rfl ?_
                refine mix1_yes rfl ?_
                refine mix1_val (fun wz hz => ex_fieldAddr fl31_1 rfl) ?_
                refine nZ211 ?_
                refine mixz_p rfl ?_
                refine mix1_yes rfl ?_
                refine mix1_val (fun wz hz => ex_move rfl) ?_
                refine mixz_o rfl ?_
                refine ops_yes rfl ?_
                refine ops_val (ex_load ty28 rfl (H13.cell (i := 3) rfl rfl)) ?_
                refine ops_nil ?_
                refine ⟨fun hne => (by first | exact H13.cell (i := 3) (o := 4) rfl rfl | (rw [← hks]; exact H13.cell (i := 3) (o := 4) rfl rfl)), ?_⟩
                refine nZ211 ?_
                refine mixz_o rfl ?_
                refine ops_yes rfl ?_
                refine ops_call_eq (ex_call gf19 rfl) (first_p q10.gv (W12.first : Int) _ (H13.cell (i := 5) rfl rfl)) ?_
                refine ops_nil ?_
                refine ⟨fun hne => (by first | exact H13.cell (i := 3) (o := 4) rfl rfl | (rw [← hks]; exact H13.cell (i := 3) (o := 4) rfl rfl)), ?_⟩
                refine nZ211 ?_
                refine mixz_p rfl ?_
                refine mix1_yes rfl ?_
                refine mix1_true (fun wz hz => ex_eql rfl rfl) (by omega) ?_
                refine mixz_p rfl ?_
                refine mix1_val (fun wz hz => ex_pick_t rfl rfl) ?_
                refine mixz_p rfl ?_
                refine mix1_val (fun wz hz => ex_move rfl) ?_
                refine mixz_p rfl ?_
                refine mix1_yes rfl ?_
                refine mix1_val (fun wz hz => ex_move rfl) ?_
                refine nZ211 ?_
                refine mixz_p rfl ?_
                refine mix1_yes rfl ?_
                refine mix1_val (fun wz hz => ex_nilCheck rfl) ?_
                refine mixz_p rfl ?_
                refine mix1_yes rfl ?_
                refine mix1_val (fun wz hz => ex_fieldAddr fl31_1 rfl) ?_
                refine mixz_p rfl ?_
                refine mix1_yes rfl ?_
                refine mix1_val (fun wz hz => ex_move rfl) ?_
                refine mixz_p rfl ?_
                refine mix1_yes rfl ?_
                refine mix1_val (fun wz hz => ex_nilCheck rfl) ?_
                refine nZ211 ?_
                refine mixz_p rfl ?_
                refine mix1_yes rfl ?_
                refine mix1_val (fun wz hz => ex_fieldAddr fl31_4 rfl) ?_
                refine mixz_p rfl ?_
                refine mix1_yes rfl ?_
                refine mix1_val (fun wz hz => ex_load ty3 rfl hz) ?_
                refine mixz_o rfl ?_
                refine ops_yes rfl ?_
                refine ops_val (ex_load ty28 rfl (H13.cell (i := 3) rfl rfl)) ?_
                refine ops_nil ?_
                refine ⟨fun hne => (by first | exact H13.cell (i := 3) (o := 4) rfl rfl | (rw [← hks]; exact H13.cell (i := 3) (o := 4) rfl rfl)), ?_⟩
                refine nZ211 ?_
                refine mixz_o rfl ?_
                refine ops_yes rfl ?_
                refine ops_call_val (ex_call gf15 rfl) (next_any q10.gv W12.first W12.recs.length q10.cr (hd q10.gr) _ (H13.cell (i := 5) rfl rfl) (H13.cell (i := 5) rfl rfl) (by omega)) ?_
                intro w14 Hd
                have H14 := H13.callN Hd
                refine ops_nil ?_
                refine ⟨fun hne => (by first | exact H14.cell (i := 3) (o := 4) rfl rfl | (rw [← hks]; exact H14.cell (i := 3) (o := 4) rfl rfl)), ?_⟩
                refine nZ211 ?_
                refine mixz_p rfl ?_
                refine mix1_yes rfl ?_
                refine mix1_true (fun wz hz => ex_geq rfl rfl) (by omega) ?_
                refine mixz_p rfl ?_
                refine mix1_val (fun wz hz => ex_pick_t rfl rfl) ?_
                refine mixz_o rfl ?_
                refine ops_val (ex_assign rfl) ?_
                refine ops_nil ?_
                refine ⟨fun hne => absurd rfl hne, ?_⟩
                refine nZ211 ?_
                refine mixz_nil ?_
                refine nR211 ?_
                refine run_ret ?_
                refine fin_ret1 rfl rfl ?_
                exact ⟨rfl, (HB.all H14).noRows⟩
        · skip
          refine ops_val (ex_move rfl) ?_
          refine nO211 ?_
          refine ops_no rfl ?_
          refine ops_no rfl ?_
          refine ops_val (ex_pick_f rfl rfl) ?_
          refine ops_val (ex_move rfl) ?_
          refine nO211 ?_
          refine ops_no rfl ?_
          refine ops_no rfl ?_
          refine nO211 ?_
          refine ops_no rfl ?_
          refine ops_no rfl ?_
          refine nO211 ?_
          refine ops_no rfl ?_
          refine ops_no rfl ?_
          refine ops_val (ex_pick_f rfl rfl) ?_
          refine ops_nil ?_
          refine nR211 ?_
          refine run_cond_false rfl ?_
          refine run_exit ?_
          refine rnd_exit ?_
          refine blk_exit ?_
          refine run_seq ?_
          refine run_region ?_
          refine ops_val (ex_move rfl) ?_
          refine ops_val (ex_nilCheck rfl) ?_
          refine ops_val (ex_fieldAddr fl31_0 rfl) ?_
          refine ops_val (ex_load ty27 rfl (H9.cell (i := 6) rfl rfl)) ?_
          refine nO211 ?_
          refine ops_val (ex_move rfl) ?_
          have HB : Hp w0 w9 [] (s2.rows ++ []) := HB.all H9
          have HD : Hp w0 w9 [] (dRows s2.m.gd s2.m.gk s2.m.gw s2.m.cw s2.m.sp s2.D) := HB.less.less.less
          refine ops_call (ex_call gf25 rfl) (crash_any s2.m.gd s2.m.gk s2.m.gw s2.m.cw s2.m.sp s2.D _ HD.here har.ok.ok.d A4 ks c4 (hA4.to0 HB) (fun h0 p hp hx => old_not HD (ks_lt hA4 h0 hp) (fun hx => by cases hx) hx) (by omega)) ?_
          rintro r w10 ⟨hr, hp⟩
          rw [hr]
          have hF2 := hF1.fall har.kept har.fresh ks
          obtain ⟨q4, he, Hd⟩ := har.ok.bare.disk hp
          obtain ⟨D7, hD7⟩ : ∃ D', s2.D.crash ks = D' := ⟨_, rfl⟩
          rw [hD7] at he Hd hF2
          have HB : Hp w0 w10 [] (eRows (md s2.m q4) D7 s2.k s2.K) := (Hp.front3 (a := dRows s2.m.gd s2.m.gk s2.m.gw s2.m.cw s2.m.sp s2.D) (b := lRows s2.m s2.W) (d := kRows s2.m s2.k s2.K) (R := []) HB Hd).pick [0, 1, 2, 6, 7] (by decide)
          have H10 := HB.here
          refine ops_nil ?_
          refine nR211 ?_
          refine run_seq ?_
          refine run_seq ?_
          refine run_region ?_
          refine ops_val (ex_assign rfl) ?_
          refine ops_nil ?_
          refine nR211 ?_
          refine run_block ?_
          refine run_loop (fun n l w => ∃ (i3 : Nat) (y3 : Int) (q5 : Mw) (D8 : Dk), 5 - i3 = n ∧ Fits [some (.slice A bs.length c), some (.slice A1 bs1.length c1), some (.int .i64 a2), some (.int .i64 a3), some (.slice A4 ks.length c4), some (.slice A5 xs.length c5), none, none, none, none, none, none, none, some (.pointer (some ⟨s2.k.gb, 0, none⟩)), some (.int .i64 (nn : Int)), none, none, some (.int .i64 y3), none, none, none, none, none, none, none, none, none, none, none, none, none, none, none, none, none, none, none, none, none, none, none, none, none, none, none, none, none, none, none, none, none, none, none, none, none, none, none, none, none, none, none, none, none, none, none, none, none, none, none, none, none, none, none, none, none, none, none, none, none, none, none, none, none, none, none, none, none, none, none, none, none, none, none, none, none, none, none, none, none, none, none, none, none, none, none, none, none, none, none, none, none, none, none, none, none, none, none, none, none, none, none, none, none, none, none, none, none, none, none, none, none, none, none, none, none, none, none, none, none, none, none, none, none, none, none, none, none, none, none, none, none, none, none, none, none, none, none, none, none, none, none, none, none, none, none, none, none, none, none, none, none, none, none, none, none, none, none, none, none, none, none, none, none, none, none, none, none, none, none, none, none, none, none, none, none, none, none, none, none, none, none, none, none, none, none, none, none, none, none, none, none] l ∧ y3 = (i3 : Int) ∧ i3 ≤ 5 ∧ EOk w (md s2.m q5) D8 s2.k s2.K ∧ Fal D8 1024 W3 sp0 ∧ Hp w0 w [] (eRows (md s2.m q5) D8 s2.k s2.K)) (5) ?_ ?_
          · exact ⟨0, _, q4, D7, rfl, (fs (fs (fs (fs (fs (fs (fn (fn (fn (fn (fn (fn (fn (fs (fs (fn (fn (fs (fn (fn (fn (fn (fn (fn (fn (fn (fn (fn (fn (fn (fn (fn (fn (fn (fn (fn (fn (fn (fn (fn (fn (fn (fn (fn (fn (fn (fn (fn (fn (fn (fn (fn (fn (fn (fn (fn (fn (fn (fn (fn (fn (fn (fn (fn (fn (fn (fn (fn (fn (fn (fn (fn (fn (fn (fn (fn (fn (fn (fn (fn (fn (fn (fn (fn (fn (fn (fn (fn (fn (fn (fn (fn (fn (fn (fn (fn (fn (fn (fn (fn (fn (fn (fn (fn (fn (fn (fn (fn (fn (fn (fn (fn (fn (fn (fn (fn (fn (fn (fn (fn (fn (fn (fn (fn (fn (fn (fn (fn (fn (fn (fn (fn (fn (fn (fn (fn (fn (fn (fn (fn (fn (fn (fn (fn (fn (fn (fn (fn (fn (fn (fn (fn (fn (fn (fn (fn (fn (fn (fn (fn (fn (fn (fn (fn (fn (fn (fn (fn (fn (fn (fn (fn (fn (fn (fn (fn (fn (fn (fn (fn (fn (fn (fn (fn (fn (fn (fn (fn (fn (fn (fn (fn (fn (fn (fn (fn (fn (fn (fn (fn (fn (fn (fn (fn (fn (fn (fn (fn (fn (fn (fn f0))))))))))))))))))))))))))))))))))))))))))))))))))))))))))))))))))))))))))))))))))))))))))))))))))))))))))))))))))))))))))))))))))))))))))))))))))))))))))))))))))))))))))))))))))))))))))))))))))))))))))))))))))), rfl, Nat.zero_le _, he, hF2, HB.all H10⟩
          · rintro n l w11 ⟨i3, y3, q5, D8, rfl, hfit, rfl, hi3, he, hF3, H11⟩
            obtain ⟨j, rfl⟩ := hfit.open
            refine nR211 ?_
            clear hfit
            have HB := H11
            replace H11 := HB.here
            refine run_seq ?_
            refine run_seq ?_
            refine run_region ?_
            refine ops_val (ex_move rfl) ?_
            refine ops_val (ex_move rfl) ?_
            refine ops_val (ex_len_slice Try.underlying22 rfl) ?_
            refine ops_test (ex_lss rfl rfl) (fun hp136 => ?_) (fun hp136 => ?_)
            · have hx5 : i3 < xs.length := by omega
              refine ops_val (ex_move rfl) ?_
              refine nO211 ?_
              refine ops_yes rfl ?_
              refine ops_val (ex_move rfl) ?_
              refine ops_yes rfl ?_
              refine ops_test (ex_lss rfl rfl) (fun hp139 => ?_) (fun hp139 => ?_)
              · have hm5 : i3 < 5 := by omega
                refine ops_val (ex_pick_t rfl rfl) ?_
                refine ops_nil ?_
                refine nR211 ?_
                refine run_cond_true rfl ?_
                refine run_skip ?_
                refine run_seq ?_
                refine run_block ?_
                refine run_seq ?_
                refine run_region ?_
                refine ops_val (ex_move rfl) ?_
                refine ops_val (ex_nilCheck rfl) ?_
                refine ops_val (ex_fieldAddr fl31_0 rfl) ?_
                refine ops_val (ex_load ty27 rfl (H11.cell (i := 3) rfl rfl)) ?_
                refine nO211 ?_
                have HB : Hp w0 w11 [] (eRows (md s2.m q5) D8 s2.k s2.K) := HB.all H11
                refine ops_call (ex_call gf28 rfl) (start_any (md s2.m q5).gd (md s2.m q5).gk (md s2.m q5).gw (md s2.m q5).cw (md s2.m q5).sp D8 _ HB.less.here he.d) ?_
                rintro r w12 ⟨hr, hp⟩
                rw [hr]
                obtain ⟨q6, he, Hd⟩ := he.disk (m := md s2.m q5) hp
                obtain ⟨D9, hD9⟩ : ∃ D', D8.start = D' := ⟨_, rfl⟩
                rw [hD9] at he Hd
                obtain ⟨hF3, hd3⟩ := hF3.start
                rw [hD9] at hF3 hd3
                have HB : Hp w0 w12 [] (eRows (md s2.m q6) D9 s2.k s2.K) := HB.front Hd
                have H12 := HB.here
                refine ops_nil ?_
                refine nR211 ?_
                refine run_seq ?_
                refine run_mixZ 12 [(true, 0), (true, 1), (true, 2), (true, 3), (true, 4), (true, 5), (true, 6), (true, 7), (true, 8), (true, 9), (true, 10), (true, 11), (false, 12)] H12 [3] mixed (by decide) (by kernel_rfl) ?_
                rintro w13 hw13
                have H13 := Hp.drew H12; rw [← hw13] at H13
                refine mixz_p rfl ?_
                refine mix1_val (fun wz hz => ex_move rfl) ?_
                refine mixz_p rfl ?_
                refine mix1_val (fun wz hz => ex_nilCheck rfl) ?_
                refine mixz_p rfl ?_
                refine mix1_val (fun wz hz => ex_fieldAddr fl31_0 rfl) ?_
                refine mixz_p rfl ?_
                refine mix1_val (fun wz hz => ex_load ty27 rfl (hz.cell (i := 0) rfl rfl)) ?_
                refine nZ211 ?_
                refine mixz_p rfl ?_
                refine mix1_val (fun wz hz => ex_move rfl) ?_
                refine mixz_p rfl ?_
                refine mix1_val (fun wz hz => ex_move rfl) ?_
                refine mixz_p rfl ?_
                obtain ⟨pb, rfl⟩ := hA5.some_ (by omega)
                refine mix1_val (fun wz hz => ex_idx Try.underlying22 ty3 rfl rfl rfl hx5 (Nat.mul_one _)) ?_
                refine mixz_p rfl ?_
                refine mix1_val (fun wz hz => ex_load ty3 rfl ((hA5.to0 (HB.all hz)).cells pb rfl i3 _ (i64s_get hx5))) ?_
                refine nZ211 ?_
                refine mixz_p rfl ?_
                obtain ⟨u3, huu3⟩ := u64_nat xs[i3]
                refine mix1_val (fun wz hz => ex_conv Try.underlying23 Try.underlying3 rfl huu3) ?_
                refine mixz_p rfl ?_
                refine mix1_val (fun wz hz => ex_rem rfl rfl (by omega) (tmodN u3 9)) ?_
                have h9 : u3 % 9 < 9 := Nat.mod_lt _ (by decide)
                generalize u3 % 9 = n9 at h9
                refine mixz_p rfl ?_
                refine mix1_val (fun wz hz => ex_conv Try.underlying3 Try.underlying23 rfl (IntWalk.i64_in _ (by omega))) ?_
                refine mixz_p rfl ?_
                refine mix1_val (fun wz hz => ex_add rfl rfl (IntWalk.i64_in _ (by omega))) ?_
                refine nZ211 ?_
                refine mixz_o rfl ?_
                replace he : EOk w13 (md s2.m q6) D9 s2.k s2.K := he.keep0 (es := []) (by rw [‹w13 = _›]; exact Hp.drewW _)
                have HB : Hp w0 w13 [] (eRows (md s2.m q6) D9 s2.k s2.K) := HB.all H13
                refine ops_call (ex_call gf26 rfl) (arm_any (md s2.m q6).gd (md s2.m q6).gk (md s2.m q6).gw (md s2.m q6).cw (md s2.m q6).sp D9 _ HB.less.here he.d (1 + (n9 : Int)) (by omega) (by omega)) ?_
                rintro r w14 ⟨hr, hp⟩
                rw [hr]
                obtain ⟨q7, he, Hd⟩ := he.disk (m := md s2.m q6) hp
                obtain ⟨D10, hD10⟩ : ∃ D', (D9.arm (1 + (n9 : Int))).1 = D' := ⟨_, rfl⟩
                rw [hD10] at he Hd
                obtain ⟨hF3, hd3⟩ := hF3.arm hd3 (1 + (n9 : Int))
                rw [hD10] at hF3 hd3
                have HB : Hp w0 w14 [] (eRows (md s2.m q7) D10 s2.k s2.K) := HB.front Hd
                have H14 := HB.here
                refine ops_nil ?_
                refine ⟨fun hne => absurd rfl hne, ?_⟩
                refine nZ211 ?_
                refine mixz_nil ?_
                refine nR211 ?_
                refine run_seq ?_
                refine run_region ?_
                refine ops_val (ex_move rfl) ?_
                refine ops_val (ex_nilCheck rfl) ?_
                refine ops_val (ex_fieldAddr fl31_0 rfl) ?_
                refine ops_val (ex_load ty27 rfl (H14.cell (i := 3) rfl rfl)) ?_
                refine nO211 ?_
                have HB : Hp w0 w14 [] (eRows (md s2.m q7) D10 s2.k s2.K) := HB.all H14
                refine ops_call (ex_call gf18 rfl) (openF_any (md s2.m q7) D10 s2.k s2.K 1024 sp0 W3 _ HB.less.here he (lt_rest HB) hF3 hd3 htd3 (by omega) (by omega)) ?_
                rintro r w15 ⟨q8, W8, hr, he, _, Hc, _, _⟩
                rw [hr]
                have HB : Hp w0 w15 [] (eRows (md s2.m q8) D10 s2.k s2.K) := (HB.front Hc).pick [0, 1, 2, 6, 7] (by decide)
                have H15 := HB.here
                refine ops_val (ex_move rfl) ?_
                refine ops_val (ex_extract rfl rfl) ?_
                refine ops_val (ex_extract rfl rfl) ?_
                refine nO211 ?_
                refine ops_val (ex_assign rfl) ?_
                refine ops_val (ex_assign rfl) ?_
                refine ops_nil ?_
                refine nR211 ?_
                refine run_seq ?_
                refine run_seq ?_
                refine run_region ?_
                refine ops_val (ex_move rfl) ?_
                refine ops_false (ex_neq rfl rfl) (by decide) ?_
                refine ops_val (ex_move rfl) ?_
                refine nO211 ?_
                refine ops_no rfl ?_
                refine ops_no rfl ?_
                refine ops_val (ex_pick_f rfl rfl) ?_
                refine ops_val (ex_move rfl) ?_
                refine nO211 ?_
                refine ops_yes rfl ?_
                refine ops_val (ex_move rfl) ?_
                refine ops_yes rfl ?_
                refine ops_true (ex_neq_nil_ptr Try.underlying28 rfl) (by simp) ?_
                refine nO211 ?_
                refine ops_yes rfl ?_
                refine ops_val (ex_move rfl) ?_
                refine ops_yes rfl ?_
                refine ops_true (ex_eql rfl rfl) (by decide) ?_
                refine nO211 ?_
                refine ops_yes rfl ?_
                refine ops_false (ex_neq_bool Try.underlying4 rfl rfl) (by simp) ?_
                refine ops_val (ex_pick_f rfl rfl) ?_
                refine ops_nil ?_
                refine nR211 ?_
                refine run_cond_false rfl ?_
                refine run_skip ?_
                refine run_region ?_
                refine ops_val (ex_move rfl) ?_
                refine ops_val (ex_nilCheck rfl) ?_
                refine ops_val (ex_fieldAddr fl31_0 rfl) ?_
                refine ops_val (ex_load ty27 rfl (H15.cell (i := 3) rfl rfl)) ?_
                refine nO211 ?_
                refine ops_val (ex_move rfl) ?_
                have HB : Hp w0 w15 [] (eRows (md s2.m q8) D10 s2.k s2.K) := HB.all H15
                refine ops_call (ex_call gf25 rfl) (crash_any (md s2.m q8).gd (md s2.m q8).gk (md s2.m q8).gw (md s2.m q8).cw (md s2.m q8).sp D10 _ HB.less.here he.d A4 ks c4 (hA4.to0 HB) (fun h0 p hp hx => old_not HB.less (ks_lt hA4 h0 hp) (fun hx => by cases hx) hx) (by rw [hF3.wait]; decide)) ?_
                rintro r w16 ⟨hr, hp⟩
                rw [hr]
                obtain ⟨q9, he, Hd⟩ := he.disk (m := md s2.m q8) hp
                obtain ⟨D11, hD11⟩ : ∃ D', D10.crash ks = D' := ⟨_, rfl⟩
                rw [hD11] at he Hd
                have hF3 := hF3.crash ks
                rw [hD11] at hF3
                have HB : Hp w0 w16 [] (eRows (md s2.m q9) D11 s2.k s2.K) := HB.front Hd
                have H16 := HB.here
                refine ops_nil ?_
                refine nR211 ?_
                refine run_nil (blk_normal ?_)
                refine run_region ?_
                refine ops_val (ex_move rfl) ?_
                refine ops_val (ex_add rfl rfl (IntWalk.i64_in _ (by omega))) ?_
                refine ops_val (ex_assign rfl) ?_
                refine ops_nil ?_
                refine nR211 ?_
                refine run_nil (rnd_normal ?_)
                exact ⟨5 - (i3 + 1), by omega, i3 + 1, _, q9, D11, rfl, (fs (fs (fs (fs (fs (fs (fn (fn (fn (fn (fn (fn (fn (fs (fs (fn (fn (fs (fn (fn (fn (fn (fn (fn (fn (fn (fn (fn (fn (fn (fn (fn (fn (fn (fn (fn (fn (fn (fn (fn (fn (fn (fn (fn (fn (fn (fn (fn (fn (fn (fn (fn (fn (fn (fn (fn (fn (fn (fn (fn (fn (fn (fn (fn (fn (fn (fn (fn (fn (fn (fn (fn (fn (fn (fn (fn (fn (fn (fn (fn (fn (fn (fn (fn (fn (fn (fn (fn (fn (fn (fn (fn (fn (fn (fn (fn (fn (fn (fn (fn (fn (fn (fn (fn (fn (fn (fn (fn (fn (fn (fn (fn (fn (fn (fn (fn (fn (fn (fn (fn (fn (fn (fn (fn (fn (fn (fn (fn (fn (fn (fn (fn (fn (fn (fn (fn (fn (fn (fn (fn (fn (fn (fn (fn (fn (fn (fn (fn (fn (fn (fn (fn (fn (fn (fn (fn (fn (fn (fn (fn (fn (fn (fn (fn (fn (fn (fn (fn (fn (fn (fn (fn (fn (fn (fn (fn (fn (fn (fn (fn (fn (fn (fn (fn (fn (fn (fn (fn (fn (fn (fn (fn (fn (fn (fn (fn (fn (fn (fn (fn (fn (fn (fn (fn (fn (fn (fn (fn (fn (fn (fn f0))))))))))))))))))))))))))))))))))))))))))))))))))))))))))))))))))))))))))))))))))))))))))))))))))))))))))))))))))))))))))))))))))))))))))))))))))))))))))))))))))))))))))))))))))))))))))))))))))))))))))))))))))), by omega, by omega, he, hF3, HB.all H16⟩
              · skip
                refine ops_val (ex_pick_t rfl rfl) ?_
                refine ops_nil ?_
                refine nR211 ?_
                refine run_cond_false rfl ?_
                refine run_exit ?_
                refine rnd_exit ?_
                refine blk_exit ?_
                refine run_seq ?_
                refine run_mixS 23 [(true, 0), (false, 1), (true, 2), (true, 3), (true, 4), (true, 5), (true, 8), (false, 6), (false, 7), (true, 9), (true, 10), (true, 11), (true, 12), (true, 13), (true, 14), (true, 17), (true, 18), (true, 19), (true, 20), (false, 15), (false, 16), (true, 21), (true, 22), (false, 23)] (fun wz => wz.cell? ⟨s2.k.gb, 4, none⟩ = some (.int .i64 (s2.K.safe : Int))) mixed (by kernel_rfl) ?_
                rintro w12 hw12
                have H12 := Hp.drew H11; rw [← hw12] at H12
                refine ⟨(by first | exact H12.cell (i := 3) (o := 4) rfl rfl | (rw [← hks]; exact H12.cell (i := 3) (o := 4) rfl rfl)), ?_⟩
                refine mixz_p rfl ?_
                refine mix1_val (fun wz hz => ex_move rfl) ?_
                refine mixz_o rfl ?_
                have HB : Hp w0 w12 [] (eRows (md s2.m q5) D8 s2.k s2.K) := HB.all H12
                replace he : EOk w12 (md s2.m q5) D8 s2.k s2.K := he.keep0 (es := []) (by rw [‹w12 = _›]; exact Hp.drewW _)
                have hpre : s2.K.all.take s.K.all.length = s.K.all := har.pre
                have hnx0 : s.K.all.length = W3.first + W3.recs.length := hag3.next
                have hsf0 : s2.K.safe = s.K.all.length := har.safe
                have hff0 : s2.K.first = nn := har.first
                have hrcO : W3.recs = (s2.K.all.drop W3.first).take W3.recs.length := by
                  have h1 : W3.recs = s.K.all.drop W3.first := hag3.recs
                  have e : (s2.K.all.take s.K.all.length).drop W3.first = (s2.K.all.drop W3.first).take (s.K.all.length - W3.first) := List.drop_take ..
                  rw [hpre, ← h1, hnx0, Nat.add_sub_cancel_left] at e
                  exact e
                have hlO := hnx2.1
                have hlO : s.K.all.length ≤ s2.K.all.length := hlO
                refine ops_call (ex_call gf29 rfl) (openB_any (md s2.m q5) D8 s2.k s2.K 1024 sp0 W3 _ HB.here he hF3 htd3 (by omega) (by omega) hrcO (by omega) (by omega) (by omega)) ?_
                rintro r w13 ⟨hr, q10, D12, W12, k12, K12, hfO, hrO, hgO, hks, Hc⟩
                rw [hr]
                replace hks : K12.safe = s2.K.safe := by omega
                have hlW : W12.recs.length = W3.recs.length := by rw [hrO]
                have HB := (HB.all Hc).pick [2, 3, 4, 0, 1, 5, 6, 7] (by decide)
                have H13 := HB.here
                rw [← hgO]
                refine ops_nil ?_
                refine ⟨fun hne => (by first | exact H13.cell (i := 3) (o := 4) rfl rfl | (rw [← hks]; exact H13.cell (i := 3) (o := 4) rfl rfl)), ?_⟩
                refine nZ211 ?_
                refine mixz_p rfl ?_
                refine mix1_val (fun wz hz => ex_move rfl) ?_
                refine mixz_p rfl ?_
                refine mix1_yes rfl ?_
                refine mix1_val (fun wz hz => ex_move rfl) ?_
                refine mixz_p rfl ?_
                refine mix1_yes rfl ?_
                refine mix1_val (fun wz hz => ex_nilCheck rfl) ?_
                refine mixz_p rfl ?_
                refine mix1_yes rfl ?_
                refine mix1_val (fun wz hz => ex_fieldAddr fl31_1 rfl) ?_
                refine nZ211 ?_
                refine mixz_p rfl ?_
                refine mix1_yes rfl ?_
                refine mix1_val (fun wz hz => ex_move rfl) ?_
                refine mixz_o rfl ?_
                refine ops_yes rfl ?_
                refine ops_val (ex_load ty28 rfl (H13.cell (i := 3) rfl rfl)) ?_
                refine ops_nil ?_
                refine ⟨fun hne => (by first | exact H13.cell (i := 3) (o := 4) rfl rfl | (rw [← hks]; exact H13.cell (i := 3) (o := 4) rfl rfl)), ?_⟩
                refine nZ211 ?_
                refine mixz_o rfl ?_
                refine ops_yes rfl ?_
                refine ops_call_eq (ex_call gf19 rfl) (first_p q10.gv (W12.first : Int) _ (H13.cell (i := 5) rfl rfl)) ?_
                refine ops_nil ?_
                refine ⟨fun hne => (by first | exact H13.cell (i := 3) (o := 4) rfl rfl | (rw [← hks]; exact H13.cell (i := 3) (o := 4) rfl rfl)), ?_⟩
                refine nZ211 ?_
                refine mixz_p rfl ?_
                refine mix1_yes rfl ?_
                refine mix1_true (fun wz hz => ex_eql rfl rfl) (by omega) ?_
                refine mixz_p rfl ?_
                refine mix1_val (fun wz hz => ex_pick_t rfl rfl) ?_
                refine mixz_p rfl ?_
                refine mix1_val (fun wz hz => ex_move rfl) ?_
                refine mixz_p rfl ?_
                refine mix1_yes rfl ?_
                refine mix1_val (fun wz hz => ex_move rfl) ?_
                refine nZ211 ?_
                refine mixz_p rfl ?_
                refine mix1_yes rfl ?_
                refine mix1_val (fun wz hz => ex_nilCheck rfl) ?_
                refine mixz_p rfl ?_
                refine mix1_yes rfl ?_
                refine mix1_val (fun wz hz => ex_fieldAddr fl31_1 rfl) ?_
                refine mixz_p rfl ?_
                refine mix1_yes rfl ?_
                refine mix1_val (fun wz hz => ex_move rfl) ?_
                refine mixz_p rfl ?_
                refine mix1_yes rfl ?_
                refine mix1_val (fun wz hz => ex_nilCheck rfl) ?_
                refine nZ211 ?_
                refine mixz_p rfl ?_
                refine mix1_yes rfl ?_
                refine mix1_val (fun wz hz => ex_fieldAddr fl31_4 rfl) ?_
                refine mixz_p rfl ?_
                refine mix1_yes rfl ?_
                refine mix1_val (fun wz hz => ex_load ty3 rfl hz) ?_
                refine mixz_o rfl ?_
                refine ops_yes rfl ?_
                refine ops_val (ex_load ty28 rfl (H13.cell (i := 3) rfl rfl)) ?_
                refine ops_nil ?_
                refine ⟨fun hne => (by first | exact H13.cell (i := 3) (o := 4) rfl rfl | (rw [← hks]; exact H13.cell (i := 3) (o := 4) rfl rfl)), ?_⟩
                refine nZ211 ?_
                refine mixz_o rfl ?_
                refine ops_yes rfl ?_
                refine ops_call_val (ex_call gf15 rfl) (next_any q10.gv W12.first W12.recs.length q10.cr (hd q10.gr) _ (H13.cell (i := 5) rfl rfl) (H13.cell (i := 5) rfl rfl) (by omega)) ?_
                intro w14 Hd
                have H14 := H13.callN Hd
                refine ops_nil ?_
                refine ⟨fun hne => (by first | exact H14.cell (i := 3) (o := 4) rfl rfl | (rw [← hks]; exact H14.cell (i := 3) (o := 4) rfl rfl)), ?_⟩
                refine nZ211 ?_
                refine mixz_p rfl ?_
                refine mix1_yes rfl ?_
                refine mix1_true (fun wz hz => ex_geq rfl rfl) (by omega) ?_
                refine mixz_p rfl ?_
                refine mix1_val (fun wz hz => ex_pick_t rfl rfl) ?_
                refine mixz_o rfl ?_
                refine ops_val (ex_assign rfl) ?_
                refine ops_nil ?_
                refine ⟨fun hne => absurd rfl hne, ?_⟩
                refine nZ211 ?_
                refine mixz_nil ?_
                refine nR211 ?_
                refine run_ret ?_
                refine fin_ret1 rfl rfl ?_
                exact ⟨rfl, (HB.all H14).noRows⟩
            · skip
              refine ops_val (ex_move rfl) ?_
              refine nO211 ?_
              refine ops_no rfl ?_
              refine ops_no rfl ?_
              refine ops_val (ex_pick_f rfl rfl) ?_
              refine ops_nil ?_
              refine nR211 ?_
              refine run_cond_false rfl ?_
              refine run_exit ?_
              refine rnd_exit ?_
              refine blk_exit ?_
              refine run_seq ?_
              refine run_mixS 23 [(true, 0), (false, 1), (true, 2), (true, 3), (true, 4), (true, 5), (true, 8), (false, 6), (false, 7), (true, 9), (true, 10), (true, 11), (true, 12), (true, 13), (true, 14), (true, 17), (true, 18), (true, 19), (true, 20), (false, 15), (false, 16), (true, 21), (true, 22), (false, 23)] (fun wz => wz.cell? ⟨s2.k.gb, 4, none⟩ = some (.int .i64 (s2.K.safe : Int))) mixed (by kernel_rfl) ?_
              rintro w12 hw12
              have H12 := Hp.drew H11; rw [← hw12] at H12
              refine ⟨(by first | exact H12.cell (i := 3) (o := 4) rfl rfl | (rw [← hks]; exact H12.cell (i := 3) (o := 4) rfl rfl)), ?_⟩
              refine mixz_p rfl ?_
              refine mix1_val (fun wz hz => ex_move rfl) ?_
              refine mixz_o rfl ?_
              have HB : Hp w0 w12 [] (eRows (md s2.m q5) D8 s2.k s2.K) := HB.all H12
              replace he : EOk w12 (md s2.m q5) D8 s2.k s2.K := he.keep0 (es := []) (by rw [‹w12 = _›]; exact Hp.drewW _)
              have hpre : s2.K.all.take s.K.all.length = s.K.all := har.pre
              have hnx0 : s.K.all.length = W3.first + W3.recs.length := hag3.next
              have hsf0 : s2.K.safe = s.K.all.length := har.safe
              have hff0 : s2.K.first = nn := har.first
              have hrcO : W3.recs = (s2.K.all.drop W3.first).take W3.recs.length := by
                have h1 : W3.recs = s.K.all.drop W3.first := hag3.recs
                have e : (s2.K.all.take s.K.all.length).drop W3.first = (s2.K.all.drop W3.first).take (s.K.all.length - W3.first) := List.drop_take ..
                rw [hpre, ← h1, hnx0, Nat.add_sub_cancel_left] at e
                exact e
              have hlO := hnx2.1
              have hlO : s.K.all.length ≤ s2.K.all.length := hlO
              refine ops_call (ex_call gf29 rfl) (openB_any (md s2.m q5) D8 s2.k s2.K 1024 sp0 W3 _ HB.here he hF3 htd3 (by omega) (by omega) hrcO (by omega) (by omega) (by omega)) ?_
              rintro r w13 ⟨hr, q10, D12, W12, k12, K12, hfO, hrO, hgO, hks, Hc⟩
              rw [hr]
              replace hks : K12.safe = s2.K.safe := by omega
              have hlW : W12.recs.length = W3.recs.length := by rw [hrO]
              have HB := (HB.all Hc).pick [2, 3, 4, 0, 1, 5, 6, 7] (by decide)
              have H13 := HB.here
              rw [← hgO]
              refine ops_nil ?_
              refine ⟨fun hne => (by first | exact H13.cell (i := 3) (o := 4) rfl rfl | (rw [← hks]; exact H13.cell (i := 3) (o := 4) rfl rfl)), ?_⟩
              refine nZ211 ?_
              refine mixz_p rfl ?_
              refine mix1_val (fun wz hz => ex_move rfl) ?_
              refine mixz_p rfl ?_
              refine mix1_yes rfl ?_
              refine mix1_val (fun wz hz => ex_move rfl) ?_
              refine mixz_p rfl ?_
              refine mix1_yes rfl ?_
              refine mix1_val (fun wz hz => ex_nilCheck rfl) ?_
              refine mixz_p rfl ?_
              refine mix1_yes rfl ?_
              refine mix1_val (fun wz hz => ex_fieldAddr fl31_1 rfl) ?_
              refine nZ211 ?_
              refine mixz_p rfl ?_
              refine mix1_yes rfl ?_
              refine mix1_val (fun wz hz => ex_move rfl) ?_
              refine mixz_o rfl ?_
              refine ops_yes rfl ?_
              refine ops_val (ex_load ty28 rfl (H13.cell (i := 3) rfl rfl)) ?_
              refine ops_nil ?_
              refine ⟨fun hne => (by first | exact H13.cell (i := 3) (o := 4) rfl rfl | (rw [← hks]; exact H13.cell (i := 3) (o := 4) rfl rfl)), ?_⟩
              refine nZ211 ?_
              refine mixz_o rfl ?_
              refine ops_yes rfl ?_
              refine ops_call_eq (ex_call gf19 rfl) (first_p q10.gv (W12.first : Int) _ (H13.cell (i := 5) rfl rfl)) ?_
              refine ops_nil ?_
              refine ⟨fun hne => (by first | exact H13.cell (i := 3) (o := 4) rfl rfl | (rw [← hks]; exact H13.cell (i := 3) (o := 4) rfl rfl)), ?_⟩
              refine nZ211 ?_
              refine mixz_p rfl ?_
              refine mix1_yes rfl ?_
              refine mix1_true (fun wz hz => ex_eql rfl rfl) (by omega) ?_
              refine mixz_p rfl ?_
              refine mix1_val (fun wz hz => ex_pick_t rfl rfl) ?_
              refine mixz_p rfl ?_
              refine mix1_val (fun wz hz => ex_move rfl) ?_
              refine mixz_p rfl ?_
              refine mix1_yes rfl ?_
              refine mix1_val (fun wz hz => ex_move rfl) ?_
              refine nZ211 ?_
              refine mixz_p rfl ?_
              refine mix1_yes rfl ?_
              refine mix1_val (fun wz hz => ex_nilCheck rfl) ?_
              refine mixz_p rfl ?_
              refine mix1_yes rfl ?_
              refine mix1_val (fun wz hz => ex_fieldAddr fl31_1 rfl) ?_
              refine mixz_p rfl ?_
              refine mix1_yes rfl ?_
              refine mix1_val (fun wz hz => ex_move rfl) ?_
              refine mixz_p rfl ?_
              refine mix1_yes rfl ?_
              refine mix1_val (fun wz hz => ex_nilCheck rfl) ?_
              refine nZ211 ?_
              refine mixz_p rfl ?_
              refine mix1_yes rfl ?_
              refine mix1_val (fun wz hz => ex_fieldAddr fl31_4 rfl) ?_
              refine mixz_p rfl ?_
              refine mix1_yes rfl ?_
              refine mix1_val (fun wz hz => ex_load ty3 rfl hz) ?_
              refine mixz_o rfl ?_
              refine ops_yes rfl ?_
              refine ops_val (ex_load ty28 rfl (H13.cell (i := 3) rfl rfl)) ?_
              refine ops_nil ?_
              refine ⟨fun hne => (by first | exact H13.cell (i := 3) (o := 4) rfl rfl | (rw [← hks]; exact H13.cell (i := 3) (o := 4) rfl rfl)), ?_⟩
              refine nZ211 ?_
              refine mixz_o rfl ?_
              refine ops_yes rfl ?_
              refine ops_call_val (ex_call gf15 rfl) (next_any q10.gv W12.first W12.recs.length q10.cr (hd q10.gr) _ (H13.cell (i := 5) rfl rfl) (H13.cell (i := 5) rfl rfl) (by omega)) ?_
              intro w14 Hd
              have H14 := H13.callN Hd
              refine ops_nil ?_
              refine ⟨fun hne => (by first | exact H14.cell (i := 3) (o := 4) rfl rfl | (rw [← hks]; exact H14.cell (i := 3) (o := 4) rfl rfl)), ?_⟩
              refine nZ211 ?_
              refine mixz_p rfl ?_
              refine mix1_yes rfl ?_
              refine mix1_true (fun wz hz => ex_geq rfl rfl) (by omega) ?_
              refine mixz_p rfl ?_
              refine mix1_val (fun wz hz => ex_pick_t rfl rfl) ?_
              refine mixz_o rfl ?_
              refine ops_val (ex_assign rfl) ?_
              refine ops_nil ?_
              refine ⟨fun hne => absurd rfl hne, ?_⟩
              refine nZ211 ?_
              refine mixz_nil ?_
              refine nR211 ?_
              refine run_ret ?_
              refine fin_ret1 rfl rfl ?_
              exact ⟨rfl, (HB.all H14).noRows⟩
end Go.Proofs.Ytgkciibfpenjpaa
