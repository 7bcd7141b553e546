/- Walks of layer 2, printed by wip/gen/codec.py. -/
import Derived.Test.YtgkciibfpenjpaaNrm
import Derived.Test.YtgkciibfpenjpaaLa
namespace Go.Proofs.Ytgkciibfpenjpaa
open Go Go.RowKit
set_option linter.unusedVariables false
attribute [local irreducible] Still Ops Does Cd
theorem eqIn_func_nil {P : Program} {t : TypeId} {w : World} {p1 p2 : Array TypeId} {v : Bool} (ht : P.underlying t = some (.func p1 p2 v)) {fn : Fn} {a b : Array Value} (d : Nat) : (Op.equalIn (d + 1) t (.func fn a b) .nilFunc).run P w = .ok false w := by
  simp [Op.equalIn, run_underlying ht]
theorem ex_eql_nil_func {P : Program} {l : List Value} {w : World} {t ty t2 : TypeId} {x : Operand} {p1 p2 : Array TypeId} {v : Bool} (ht : P.underlying t = some (.func p1 p2 v)) {fn : Fn} {a b : Array Value} (hx : ev l x = some (.func fn a b)) :
    Ex P l (.binOp .eql t x (.const .nilFunc) t2) ty w (.value (.bool false)) w := ex_eql_of hx rfl rfl rfl (eqIn_func_nil ht)
theorem AppO.first0 {n : Nat} {σ σ' : Sx} {b : Blk} (h : AppO n σ b σ') : σ'.W.first = σ.W.first := by
  rcases h with ⟨_, h, _⟩ | ⟨_, _, h, _⟩ | ⟨_, _, _, h, _⟩
  · rw [h]
  · rw [h]
  · exact h
namespace Rn
attribute [local irreducible] Cd
set_option maxRecDepth 100000 in
set_option maxHeartbeats 16000000 in
theorem walAll_p (A : Option Addr) (zs : List Value) (bs : List Blk) (c : Nat) (a1 : Int) (w0 : World) (hA : Rd w0 A bs.length 1 zs) (hL : Lsw w0 [] zs bs) :
    DoesP Try.prog 6 #[.slice A bs.length c, .int .i64 a1] w0 (fun r w' => r = .bool true ∧ Hp w0 w' [] []) (fun _ _ => False) := by
  refine does_of Try.func6 Try.ntmps6 rfl ?_
  change Run _ _ _ _ [.slice A bs.length c, .int .i64 a1, undef, undef, undef, undef, undef, undef, undef, undef, undef, undef, undef, undef, undef, undef, undef, undef, undef, undef, undef, undef, undef, undef, undef, undef, undef, undef, undef, undef, undef, undef, undef, undef, undef, undef, undef, undef, undef, undef, undef, undef, undef, undef, undef, undef, undef, undef, undef, undef, undef, undef, undef, undef, undef, undef, undef, undef, undef, undef, undef, undef, undef, undef, undef, undef, undef, undef, undef, undef, undef, undef, undef, undef, undef, undef, undef, undef, undef, undef, undef, undef, undef, undef, undef, undef, undef, undef, undef, undef, undef, undef, undef, undef, undef, undef, undef, undef, undef, undef, undef, undef, undef, undef, undef, undef, undef, undef, undef, undef, undef, undef, undef, undef, undef, undef, undef, undef, undef, undef, undef, undef, undef, undef, undef, undef, undef, undef, undef, undef, undef, undef, undef, undef, undef, undef, undef, undef, undef, undef, undef, undef, undef, undef, undef, undef, undef, undef, undef, undef, undef, undef, undef, undef, undef, undef, undef, undef, undef, undef, undef, undef, undef, undef, undef, undef, undef, undef, undef, undef, undef, undef, undef, undef, undef, undef, undef, undef, undef, undef, undef, undef, undef, undef, undef, undef, undef] _
  have H := Hp.refl w0
  refine run_seq ?_
  refine run_region rfl (fun _ _ h => h) ?_
  refine ops_alloc ty4 H ?_
  intro w1 g4 H1 hg4
  refine ops_nil ?_
  change Run _ _ _ _ [_, _, _, _, _, _, _, _, _, _, _, _, _, _, _, _, _, _, _, _, _, _, _, _, _, _, _, _, _, _, _, _, _, _, _, _, _, _, _, _, _, _, _, _, _, _, _, _, _, _, _, _, _, _, _, _, _, _, _, _, _, _, _, _, _, _, _, _, _, _, _, _, _, _, _, _, _, _, _, _, _, _, _, _, _, _, _, _, _, _, _, _, _, _, _, _, _, _, _, _, _, _, _, _, _, _, _, _, _, _, _, _, _, _, _, _, _, _, _, _, _, _, _, _, _, _, _, _, _, _, _, _, _, _, _, _, _, _, _, _, _, _, _, _, _, _, _, _, _, _, _, _, _, _, _, _, _, _, _, _, _, _, _, _, _, _, _, _, _, _, _, _, _, _, _, _, _, _, _, _, _, _, _, _, _, _, _] _
  refine run_seq ?_
  refine run_region rfl (fun _ _ h => h) ?_
  refine ops_call (ex_call gf9 rfl) (liveBegin_any 1024 _ (by decide) (by decide)) ?_
  rintro r w2 ⟨s0, hr, hl, hag, hrc, hfs, htd, hka, hkf, Hc⟩
  rw [hr]
  have H2 : Hp w0 w2 [] (s0.rows ++ [((some g4, 4, [.bool false]) : Ent)]) := (H1.call0 Hc).pick [1, 2, 3, 4, 5, 6, 7, 8, 0] (by decide)
  obtain ⟨gb, hgb⟩ : ∃ g, s0.k.gb = g := ⟨_, rfl⟩
  rw [hgb]
  refine ops_alloc ty24 H2 ?_
  intro w3 g5 H3 hg5
  refine ops_store1 ty24 H3 9 rfl rfl rfl rfl (by first | decide | simp) rfl ?_
  intro w4 H4
  refine ops_nil ?_
  change Run _ _ _ _ [_, _, _, _, _, _, _, _, _, _, _, _, _, _, _, _, _, _, _, _, _, _, _, _, _, _, _, _, _, _, _, _, _, _, _, _, _, _, _, _, _, _, _, _, _, _, _, _, _, _, _, _, _, _, _, _, _, _, _, _, _, _, _, _, _, _, _, _, _, _, _, _, _, _, _, _, _, _, _, _, _, _, _, _, _, _, _, _, _, _, _, _, _, _, _, _, _, _, _, _, _, _, _, _, _, _, _, _, _, _, _, _, _, _, _, _, _, _, _, _, _, _, _, _, _, _, _, _, _, _, _, _, _, _, _, _, _, _, _, _, _, _, _, _, _, _, _, _, _, _, _, _, _, _, _, _, _, _, _, _, _, _, _, _, _, _, _, _, _, _, _, _, _, _, _, _, _, _, _, _, _, _, _, _, _, _, _] _
  refine run_seq ?_
  refine run_seq ?_
  refine run_region rfl (fun _ _ h => h) ?_
  have HB : Hp w0 w4 [] (s0.rows ++ [((some g4, 4, [.bool false]) : Ent), (some g5, 24, [.pointer (some ⟨gb, 0, none⟩)])]) := H4
  replace hl : Live w4 s0 [((some g4, 4, [.bool false]) : Ent), (some g5, 24, [.pointer (some ⟨gb, 0, none⟩)])] 1024 0 := hl.any hrc hka
  refine ops_call_val (ex_call gf10 rfl) (awake_any _) ?_
  intro w5 Hd
  replace HB := HB.callN Hd
  replace hl := hl.keep0 Hd
  have H5 := HB.here
  refine ops_val (ex_not rfl) ?_
  refine ops_val (ex_move rfl) ?_
  refine nO187 ?_
  refine ops_yes rfl ?_
  refine ops_val (v := .pointer (some ⟨s0.k.gb, 0, none⟩)) (ex_load ty24 rfl (by rw [hgb]; exact H5.cell (i := 9) (o := 0) rfl rfl)) ?_
  refine ops_yes rfl ?_
  refine ops_false (ex_eql_nil_ptr Try.underlying24 rfl) (by simp) ?_
  refine ops_val (ex_pick_f rfl rfl) ?_
  refine ops_nil ?_
  change Run _ _ _ _ [_, _, _, _, _, _, _, _, _, _, _, _, _, _, _, _, _, _, _, _, _, _, _, _, _, _, _, _, _, _, _, _, _, _, _, _, _, _, _, _, _, _, _, _, _, _, _, _, _, _, _, _, _, _, _, _, _, _, _, _, _, _, _, _, _, _, _, _, _, _, _, _, _, _, _, _, _, _, _, _, _, _, _, _, _, _, _, _, _, _, _, _, _, _, _, _, _, _, _, _, _, _, _, _, _, _, _, _, _, _, _, _, _, _, _, _, _, _, _, _, _, _, _, _, _, _, _, _, _, _, _, _, _, _, _, _, _, _, _, _, _, _, _, _, _, _, _, _, _, _, _, _, _, _, _, _, _, _, _, _, _, _, _, _, _, _, _, _, _, _, _, _, _, _, _, _, _, _, _, _, _, _, _, _, _, _, _] _
  refine run_cond_false rfl ?_
  refine run_skip ?_
  refine run_seq ?_
  refine run_seq ?_
  refine run_region rfl (fun _ _ h => h) ?_
  refine ops_val (ex_assign rfl) ?_
  refine ops_nil ?_
  change Run _ _ _ _ [_, _, _, _, _, _, _, _, _, _, _, _, _, _, _, _, _, _, _, _, _, _, _, _, _, _, _, _, _, _, _, _, _, _, _, _, _, _, _, _, _, _, _, _, _, _, _, _, _, _, _, _, _, _, _, _, _, _, _, _, _, _, _, _, _, _, _, _, _, _, _, _, _, _, _, _, _, _, _, _, _, _, _, _, _, _, _, _, _, _, _, _, _, _, _, _, _, _, _, _, _, _, _, _, _, _, _, _, _, _, _, _, _, _, _, _, _, _, _, _, _, _, _, _, _, _, _, _, _, _, _, _, _, _, _, _, _, _, _, _, _, _, _, _, _, _, _, _, _, _, _, _, _, _, _, _, _, _, _, _, _, _, _, _, _, _, _, _, _, _, _, _, _, _, _, _, _, _, _, _, _, _, _, _, _, _, _] _
  refine run_block ?_
  refine run_loop (fun n l w => ∃ (i : Nat) (y : Int) (s : Sx), 40 - i = n ∧ Fits [some (.slice A bs.length c), some (.int .i64 a1), none, none, some (.pointer (some ⟨g4, 0, none⟩)), some (.pointer (some ⟨g5, 0, none⟩)), some (.int .i64 y), none, none, none, none, none, none, none, none, none, none, none, none, none, none, none, none, none, none, none, none, none, none, none, none, none, none, none, none, none, none, none, none, none, none, none, none, none, none, none, none, none, none, none, none, none, none, none, none, none, none, none, none, none, none, none, none, none, none, none, none, none, none, none, none, none, none, none, none, none, none, none, none, none, none, none, none, none, none, none, none, none, none, none, none, none, none, none, none, none, none, none, none, none, none, none, none, none, none, none, none, none, none, none, none, none, none, none, none, none, none, none, none, none, none, none, none, none, none, none, none, none, none, none, none, none, none, none, none, none, none, none, none, none, none, none, none, none, none, none, none, none, none, none, none, none, none, none, none, none, none, none, none, none, none, none, none, none, none, none, none, none, none, none, none, none, none, none, none, none, none, none, none, none, none, none, none, none, none, none, none] l ∧ y = (i : Int) ∧ i ≤ 40 ∧ s.k.gb = gb ∧ Live w s [((some g4, 4, [.bool false]) : Ent), (some g5, 24, [.pointer (some ⟨gb, 0, none⟩)])] 1024 i ∧ Agr s.W s.K ∧ s.W.first = 0 ∧ Hp w0 w [] (s.rows ++ [((some g4, 4, [.bool false]) : Ent), (some g5, 24, [.pointer (some ⟨gb, 0, none⟩)])])) (40) ?_ ?_
  · exact ⟨0, _, s0, rfl, (fs (fs (fn (fn (fs (fs (fs (fn (fn (fn (fn (fn (fn (fn (fn (fn (fn (fn (fn (fn (fn (fn (fn (fn (fn (fn (fn (fn (fn (fn (fn (fn (fn (fn (fn (fn (fn (fn (fn (fn (fn (fn (fn (fn (fn (fn (fn (fn (fn (fn (fn (fn (fn (fn (fn (fn (fn (fn (fn (fn (fn (fn (fn (fn (fn (fn (fn (fn (fn (fn (fn (fn (fn (fn (fn (fn (fn (fn (fn (fn (fn (fn (fn (fn (fn (fn (fn (fn (fn (fn (fn (fn (fn (fn (fn (fn (fn (fn (fn (fn (fn (fn (fn (fn (fn (fn (fn (fn (fn (fn (fn (fn (fn (fn (fn (fn (fn (fn (fn (fn (fn (fn (fn (fn (fn (fn (fn (fn (fn (fn (fn (fn (fn (fn (fn (fn (fn (fn (fn (fn (fn (fn (fn (fn (fn (fn (fn (fn (fn (fn (fn (fn (fn (fn (fn (fn (fn (fn (fn (fn (fn (fn (fn (fn (fn (fn (fn (fn (fn (fn (fn (fn (fn (fn (fn (fn (fn (fn (fn (fn (fn (fn (fn (fn (fn (fn (fn f0))))))))))))))))))))))))))))))))))))))))))))))))))))))))))))))))))))))))))))))))))))))))))))))))))))))))))))))))))))))))))))))))))))))))))))))))))))))))))))))))))))))))))))))))))))))))))), rfl, Nat.zero_le _, hgb, hl, hag, hfs, HB.all H5⟩
  · rintro n l w6 ⟨i, y, s, rfl, hfit, rfl, hi, hgb, hl, hag, hf0, H6⟩
    obtain ⟨j, rfl⟩ := hfit.open
    change Run _ _ _ _ [_, _, _, _, _, _, _, _, _, _, _, _, _, _, _, _, _, _, _, _, _, _, _, _, _, _, _, _, _, _, _, _, _, _, _, _, _, _, _, _, _, _, _, _, _, _, _, _, _, _, _, _, _, _, _, _, _, _, _, _, _, _, _, _, _, _, _, _, _, _, _, _, _, _, _, _, _, _, _, _, _, _, _, _, _, _, _, _, _, _, _, _, _, _, _, _, _, _, _, _, _, _, _, _, _, _, _, _, _, _, _, _, _, _, _, _, _, _, _, _, _, _, _, _, _, _, _, _, _, _, _, _, _, _, _, _, _, _, _, _, _, _, _, _, _, _, _, _, _, _, _, _, _, _, _, _, _, _, _, _, _, _, _, _, _, _, _, _, _, _, _, _, _, _, _, _, _, _, _, _, _, _, _, _, _, _, _] _
    clear hfit
    have HB := H6
    replace H6 := HB.here
    refine run_seq ?_
    refine run_seq ?_
    refine run_region rfl (fun _ _ h => h) ?_
    refine ops_val (ex_move rfl) ?_
    refine ops_val (ex_move rfl) ?_
    refine ops_val (ex_len_slice Try.underlying29 rfl) ?_
    refine ops_test (ex_lss rfl rfl) (fun hp28 => ?_) (fun hp28 => ?_)
    · have hix : i < bs.length := by omega
      obtain ⟨Be, ce, hzi, hrd, _⟩ := hL.2 i hix
      refine ops_val (ex_move rfl) ?_
      refine nO187 ?_
      refine ops_yes rfl ?_
      refine ops_val (ex_move rfl) ?_
      refine ops_yes rfl ?_
      refine ops_test (ex_lss rfl rfl) (fun hp31 => ?_) (fun hp31 => ?_)
      · have him : i < 40 := by omega
        obtain ⟨pa, rfl⟩ := hA.some_ (by omega)
        refine ops_val (ex_pick_t rfl rfl) ?_
        refine ops_nil ?_
        change Run _ _ _ _ [_, _, _, _, _, _, _, _, _, _, _, _, _, _, _, _, _, _, _, _, _, _, _, _, _, _, _, _, _, _, _, _, _, _, _, _, _, _, _, _, _, _, _, _, _, _, _, _, _, _, _, _, _, _, _, _, _, _, _, _, _, _, _, _, _, _, _, _, _, _, _, _, _, _, _, _, _, _, _, _, _, _, _, _, _, _, _, _, _, _, _, _, _, _, _, _, _, _, _, _, _, _, _, _, _, _, _, _, _, _, _, _, _, _, _, _, _, _, _, _, _, _, _, _, _, _, _, _, _, _, _, _, _, _, _, _, _, _, _, _, _, _, _, _, _, _, _, _, _, _, _, _, _, _, _, _, _, _, _, _, _, _, _, _, _, _, _, _, _, _, _, _, _, _, _, _, _, _, _, _, _, _, _, _, _, _, _] _
        refine run_cond_true rfl ?_
        refine run_skip ?_
        refine run_seq ?_
        refine run_block ?_
        refine run_seq ?_
        refine run_mixZ 14 [(true, 0), (true, 1), (true, 2), (true, 3), (true, 4), (true, 5), (true, 6), (true, 7), (true, 8), (true, 9), (true, 10), (true, 11), (false, 12), (true, 13), (false, 14)] H6 [9] mixed (by decide) (by kernel_rfl) rfl ?_
        rintro w7 hw7
        have H7 := Hp.drew H6; rw [← hw7] at H7
        refine mixz_p rfl ?_
        refine mix1_val (fun wz hz => ex_move rfl) ?_
        refine mixz_p rfl ?_
        refine mix1_val (fun wz hz => ex_move rfl) ?_
        refine mixz_p rfl ?_
        refine mix1_val (fun wz hz => ex_idx Try.underlying29 ty34 rfl rfl rfl hix (Nat.mul_one _)) ?_
        refine mixz_p rfl ?_
        refine mix1_val (fun wz hz => ex_load ty34 rfl ((hA.to0 (HB.all hz)).cells pa rfl i _ hzi)) ?_
        refine nZ187 ?_
        refine mixz_p rfl ?_
        refine mix1_val (fun wz hz => ex_len_slice Try.underlying34 rfl) ?_
        refine mixz_p rfl ?_
        refine mix1_test (fun wz hz => ex_leq rfl rfl) (fun hp40 => ?_) (fun hp40 => ?_)
        · have h300 : bs[i].length ≤ 300 := by omega
          refine mixz_p rfl ?_
          refine mix1_val (fun wz hz => ex_move rfl) ?_
          refine mixz_p rfl ?_
          refine mix1_yes rfl ?_
          refine mix1_val (v := .pointer (some ⟨s.k.gb, 0, none⟩)) (fun wz hz => ex_load ty24 rfl (by rw [hgb]; exact hz.cell (i := 0) (o := 0) rfl rfl)) ?_
          refine mixz_p rfl ?_
          refine mix1_yes rfl ?_
          refine mix1_val (fun wz hz => ex_move rfl) ?_
          refine nZ187 ?_
          refine mixz_p rfl ?_
          refine mix1_yes rfl ?_
          refine mix1_val (fun wz hz => ex_move rfl) ?_
          refine mixz_p rfl ?_
          refine mix1_yes rfl ?_
          refine mix1_val (fun wz hz => ex_idx Try.underlying29 ty34 rfl rfl rfl hix (Nat.mul_one _)) ?_
          refine mixz_p rfl ?_
          refine mix1_yes rfl ?_
          refine mix1_val (fun wz hz => ex_load ty34 rfl ((hA.to0 (HB.all hz)).cells pa rfl i _ hzi)) ?_
          refine mixz_o rfl ?_
          refine ops_yes rfl ?_
          replace hl := hl.to H7
          have HB : Hp w0 w7 [] (s.rows ++ [((some g4, 4, [.bool false]) : Ent), (some g5, 24, [.pointer (some ⟨gb, 0, none⟩)])]) := HB.all H7
          refine ops_call (ex_call gf14 rfl) (liveAppend_any s 1024 i _ HB.less.here hl.less hag (by omega) Be bs[i] ce (hrd.to0 HB) (fun h0 p hp hx => old_not HB.less (rd_lt hrd h0 hp) (fun hx => by cases hx) hx) (by omega)) ?_
          rintro r w8 ⟨hr1, s1, hp, hag, ho⟩
          rw [hr1]
          obtain ⟨_, _, hgb1, hl, Hc⟩ := hp.more hl (lt_rest HB)
          have HB : Hp w0 w8 [] (s1.rows ++ [((some g4, 4, [.bool false]) : Ent), (some g5, 24, [.pointer (some ⟨gb, 0, none⟩)])]) := HB.front Hc
          have H8 := H7.front Hc
          refine ops_nil ?_
          refine ⟨fun hne => H8.pick [9] (by decide), ?_⟩
          refine nZ187 ?_
          refine mixz_p rfl ?_
          refine mix1_yes rfl ?_
          refine mix1_val (fun wz hz => ex_not rfl) ?_
          refine mixz_o rfl ?_
          refine ops_val (ex_pick_t rfl rfl) ?_
          refine ops_nil ?_
          refine ⟨fun hne => absurd rfl hne, ?_⟩
          refine nZ187 ?_
          refine mixz_nil ?_
          change Run _ _ _ _ [_, _, _, _, _, _, _, _, _, _, _, _, _, _, _, _, _, _, _, _, _, _, _, _, _, _, _, _, _, _, _, _, _, _, _, _, _, _, _, _, _, _, _, _, _, _, _, _, _, _, _, _, _, _, _, _, _, _, _, _, _, _, _, _, _, _, _, _, _, _, _, _, _, _, _, _, _, _, _, _, _, _, _, _, _, _, _, _, _, _, _, _, _, _, _, _, _, _, _, _, _, _, _, _, _, _, _, _, _, _, _, _, _, _, _, _, _, _, _, _, _, _, _, _, _, _, _, _, _, _, _, _, _, _, _, _, _, _, _, _, _, _, _, _, _, _, _, _, _, _, _, _, _, _, _, _, _, _, _, _, _, _, _, _, _, _, _, _, _, _, _, _, _, _, _, _, _, _, _, _, _, _, _, _, _, _, _] _
          refine run_cond_false rfl ?_
          refine run_skip ?_
          refine run_nil (blk_normal ?_)
          refine run_region rfl (fun _ _ h => h) ?_
          refine ops_val (ex_move rfl) ?_
          refine ops_val (ex_add rfl rfl (IntWalk.i64_in _ (by omega))) ?_
          refine ops_val (ex_assign rfl) ?_
          refine ops_nil ?_
          change Run _ _ _ _ [_, _, _, _, _, _, _, _, _, _, _, _, _, _, _, _, _, _, _, _, _, _, _, _, _, _, _, _, _, _, _, _, _, _, _, _, _, _, _, _, _, _, _, _, _, _, _, _, _, _, _, _, _, _, _, _, _, _, _, _, _, _, _, _, _, _, _, _, _, _, _, _, _, _, _, _, _, _, _, _, _, _, _, _, _, _, _, _, _, _, _, _, _, _, _, _, _, _, _, _, _, _, _, _, _, _, _, _, _, _, _, _, _, _, _, _, _, _, _, _, _, _, _, _, _, _, _, _, _, _, _, _, _, _, _, _, _, _, _, _, _, _, _, _, _, _, _, _, _, _, _, _, _, _, _, _, _, _, _, _, _, _, _, _, _, _, _, _, _, _, _, _, _, _, _, _, _, _, _, _, _, _, _, _, _, _, _] _
          refine run_nil (rnd_normal ?_)
          refine ⟨rfl, ?_⟩
          exact ⟨40 - (i + 1), by omega, i + 1, _, s1, rfl, (fs (fs (fn (fn (fs (fs (fs (fn (fn (fn (fn (fn (fn (fn (fn (fn (fn (fn (fn (fn (fn (fn (fn (fn (fn (fn (fn (fn (fn (fn (fn (fn (fn (fn (fn (fn (fn (fn (fn (fn (fn (fn (fn (fn (fn (fn (fn (fn (fn (fn (fn (fn (fn (fn (fn (fn (fn (fn (fn (fn (fn (fn (fn (fn (fn (fn (fn (fn (fn (fn (fn (fn (fn (fn (fn (fn (fn (fn (fn (fn (fn (fn (fn (fn (fn (fn (fn (fn (fn (fn (fn (fn (fn (fn (fn (fn (fn (fn (fn (fn (fn (fn (fn (fn (fn (fn (fn (fn (fn (fn (fn (fn (fn (fn (fn (fn (fn (fn (fn (fn (fn (fn (fn (fn (fn (fn (fn (fn (fn (fn (fn (fn (fn (fn (fn (fn (fn (fn (fn (fn (fn (fn (fn (fn (fn (fn (fn (fn (fn (fn (fn (fn (fn (fn (fn (fn (fn (fn (fn (fn (fn (fn (fn (fn (fn (fn (fn (fn (fn (fn (fn (fn (fn (fn (fn (fn (fn (fn (fn (fn (fn (fn (fn (fn (fn (fn (fn f0))))))))))))))))))))))))))))))))))))))))))))))))))))))))))))))))))))))))))))))))))))))))))))))))))))))))))))))))))))))))))))))))))))))))))))))))))))))))))))))))))))))))))))))))))))))))))), by omega, by omega, hgb1.trans hgb, hl, hag, ho.first0.trans hf0, HB⟩
        · skip
          refine mixz_p rfl ?_
          refine mix1_val (fun wz hz => ex_move rfl) ?_
          refine mixz_p rfl ?_
          refine mix1_no rfl ?_
          refine nZ187 ?_
          refine mixz_p rfl ?_
          refine mix1_no rfl ?_
          refine mixz_p rfl ?_
          refine mix1_no rfl ?_
          refine nZ187 ?_
          refine mixz_p rfl ?_
          refine mix1_no rfl ?_
          refine mixz_p rfl ?_
          refine mix1_no rfl ?_
          refine nZ187 ?_
          refine mixz_o rfl ?_
          refine ops_no rfl ?_
          refine ops_nil ?_
          refine ⟨fun hne => H7.pick [9] (by decide), ?_⟩
          refine mixz_p rfl ?_
          refine mix1_no rfl ?_
          refine nZ187 ?_
          refine mixz_o rfl ?_
          refine ops_val (ex_pick_f rfl rfl) ?_
          refine ops_nil ?_
          refine ⟨fun hne => absurd rfl hne, ?_⟩
          refine nZ187 ?_
          refine mixz_nil ?_
          change Run _ _ _ _ [_, _, _, _, _, _, _, _, _, _, _, _, _, _, _, _, _, _, _, _, _, _, _, _, _, _, _, _, _, _, _, _, _, _, _, _, _, _, _, _, _, _, _, _, _, _, _, _, _, _, _, _, _, _, _, _, _, _, _, _, _, _, _, _, _, _, _, _, _, _, _, _, _, _, _, _, _, _, _, _, _, _, _, _, _, _, _, _, _, _, _, _, _, _, _, _, _, _, _, _, _, _, _, _, _, _, _, _, _, _, _, _, _, _, _, _, _, _, _, _, _, _, _, _, _, _, _, _, _, _, _, _, _, _, _, _, _, _, _, _, _, _, _, _, _, _, _, _, _, _, _, _, _, _, _, _, _, _, _, _, _, _, _, _, _, _, _, _, _, _, _, _, _, _, _, _, _, _, _, _, _, _, _, _, _, _, _] _
          refine run_cond_false rfl ?_
          refine run_skip ?_
          refine run_nil (blk_normal ?_)
          refine run_region rfl (fun _ _ h => h) ?_
          refine ops_val (ex_move rfl) ?_
          refine ops_val (ex_add rfl rfl (IntWalk.i64_in _ (by omega))) ?_
          refine ops_val (ex_assign rfl) ?_
          refine ops_nil ?_
          change Run _ _ _ _ [_, _, _, _, _, _, _, _, _, _, _, _, _, _, _, _, _, _, _, _, _, _, _, _, _, _, _, _, _, _, _, _, _, _, _, _, _, _, _, _, _, _, _, _, _, _, _, _, _, _, _, _, _, _, _, _, _, _, _, _, _, _, _, _, _, _, _, _, _, _, _, _, _, _, _, _, _, _, _, _, _, _, _, _, _, _, _, _, _, _, _, _, _, _, _, _, _, _, _, _, _, _, _, _, _, _, _, _, _, _, _, _, _, _, _, _, _, _, _, _, _, _, _, _, _, _, _, _, _, _, _, _, _, _, _, _, _, _, _, _, _, _, _, _, _, _, _, _, _, _, _, _, _, _, _, _, _, _, _, _, _, _, _, _, _, _, _, _, _, _, _, _, _, _, _, _, _, _, _, _, _, _, _, _, _, _, _] _
          refine run_nil (rnd_normal ?_)
          refine ⟨rfl, ?_⟩
          exact ⟨40 - (i + 1), by omega, i + 1, _, s, rfl, (fs (fs (fn (fn (fs (fs (fs (fn (fn (fn (fn (fn (fn (fn (fn (fn (fn (fn (fn (fn (fn (fn (fn (fn (fn (fn (fn (fn (fn (fn (fn (fn (fn (fn (fn (fn (fn (fn (fn (fn (fn (fn (fn (fn (fn (fn (fn (fn (fn (fn (fn (fn (fn (fn (fn (fn (fn (fn (fn (fn (fn (fn (fn (fn (fn (fn (fn (fn (fn (fn (fn (fn (fn (fn (fn (fn (fn (fn (fn (fn (fn (fn (fn (fn (fn (fn (fn (fn (fn (fn (fn (fn (fn (fn (fn (fn (fn (fn (fn (fn (fn (fn (fn (fn (fn (fn (fn (fn (fn (fn (fn (fn (fn (fn (fn (fn (fn (fn (fn (fn (fn (fn (fn (fn (fn (fn (fn (fn (fn (fn (fn (fn (fn (fn (fn (fn (fn (fn (fn (fn (fn (fn (fn (fn (fn (fn (fn (fn (fn (fn (fn (fn (fn (fn (fn (fn (fn (fn (fn (fn (fn (fn (fn (fn (fn (fn (fn (fn (fn (fn (fn (fn (fn (fn (fn (fn (fn (fn (fn (fn (fn (fn (fn (fn (fn (fn (fn f0))))))))))))))))))))))))))))))))))))))))))))))))))))))))))))))))))))))))))))))))))))))))))))))))))))))))))))))))))))))))))))))))))))))))))))))))))))))))))))))))))))))))))))))))))))))))))), by omega, by omega, hgb, (hl.to H7).up_ (by omega), hag, hf0, HB.all H7⟩
      · skip
        refine ops_val (ex_pick_t rfl rfl) ?_
        refine ops_nil ?_
        change Run _ _ _ _ [_, _, _, _, _, _, _, _, _, _, _, _, _, _, _, _, _, _, _, _, _, _, _, _, _, _, _, _, _, _, _, _, _, _, _, _, _, _, _, _, _, _, _, _, _, _, _, _, _, _, _, _, _, _, _, _, _, _, _, _, _, _, _, _, _, _, _, _, _, _, _, _, _, _, _, _, _, _, _, _, _, _, _, _, _, _, _, _, _, _, _, _, _, _, _, _, _, _, _, _, _, _, _, _, _, _, _, _, _, _, _, _, _, _, _, _, _, _, _, _, _, _, _, _, _, _, _, _, _, _, _, _, _, _, _, _, _, _, _, _, _, _, _, _, _, _, _, _, _, _, _, _, _, _, _, _, _, _, _, _, _, _, _, _, _, _, _, _, _, _, _, _, _, _, _, _, _, _, _, _, _, _, _, _, _, _, _] _
        refine run_cond_false rfl ?_
        refine run_exit ?_
        refine rnd_exit ?_
        refine blk_exit ?_
        refine run_seq ?_
        refine run_region rfl (fun _ _ h => h) ?_
        refine ops_val (ex_move rfl) ?_
        have hn1 := hag.next
        have hf1 := hag.first
        have hnx := hl.next
        obtain ⟨u, hu⟩ := u64_nat a1
        refine ops_val (ex_conv Try.underlying23 Try.underlying3 rfl hu) ?_
        refine ops_val (v := .pointer (some ⟨s.k.gb, 0, none⟩)) (ex_load ty24 rfl (by rw [hgb]; exact H6.cell (i := 9) (o := 0) rfl rfl)) ?_
        refine ops_val (ex_nilCheck rfl) ?_
        refine nO187 ?_
        refine ops_val (ex_fieldAddr fl31_3 rfl) ?_
        refine ops_val (ex_load ty3 rfl (H6.cell (i := 6) rfl rfl)) ?_
        refine ops_val (ex_add rfl rfl ((IntWalk.i64_in _ (by omega)).trans (show ((s.K.all.length : Int) + 1) = ((s.K.all.length + 1 : Nat) : Int) by omega))) ?_
        refine ops_val (ex_conv Try.underlying23 Try.underlying3 rfl (IntWalk.u64_in _ (by omega))) ?_
        refine nO187 ?_
        refine ops_val (ex_rem rfl rfl (by omega) (tmodN u (s.K.all.length + 1))) ?_
        have hgo : u % (s.K.all.length + 1) < s.K.all.length + 1 := Nat.mod_lt _ (by omega)
        generalize u % (s.K.all.length + 1) = nn at hgo
        refine ops_val (ex_conv Try.underlying3 Try.underlying23 rfl (IntWalk.i64_in _ (by omega))) ?_
        refine ops_val (ex_assign rfl) ?_
        refine ops_nil ?_
        change Run _ _ _ _ [_, _, _, _, _, _, _, _, _, _, _, _, _, _, _, _, _, _, _, _, _, _, _, _, _, _, _, _, _, _, _, _, _, _, _, _, _, _, _, _, _, _, _, _, _, _, _, _, _, _, _, _, _, _, _, _, _, _, _, _, _, _, _, _, _, _, _, _, _, _, _, _, _, _, _, _, _, _, _, _, _, _, _, _, _, _, _, _, _, _, _, _, _, _, _, _, _, _, _, _, _, _, _, _, _, _, _, _, _, _, _, _, _, _, _, _, _, _, _, _, _, _, _, _, _, _, _, _, _, _, _, _, _, _, _, _, _, _, _, _, _, _, _, _, _, _, _, _, _, _, _, _, _, _, _, _, _, _, _, _, _, _, _, _, _, _, _, _, _, _, _, _, _, _, _, _, _, _, _, _, _, _, _, _, _, _, _] _
        refine run_seq ?_
        refine run_seq ?_
        refine run_region rfl (fun _ _ h => h) ?_
        refine ops_val (v := .pointer (some ⟨s.k.gb, 0, none⟩)) (ex_load ty24 rfl (by rw [hgb]; exact H6.cell (i := 9) (o := 0) rfl rfl)) ?_
        refine ops_val (ex_nilCheck rfl) ?_
        refine ops_val (ex_fieldAddr fl31_1 rfl) ?_
        refine ops_val (ex_load ty28 rfl (H6.cell (i := 6) rfl rfl)) ?_
        refine nO187 ?_
        refine ops_val (ex_move rfl) ?_
        have HB : Hp w0 w6 [] (s.rows ++ [((some g4, 4, [.bool false]) : Ent), (some g5, 24, [.pointer (some ⟨gb, 0, none⟩)])]) := HB.all H6
        have hwt := hl.wait
        have htn := hl.turn
        refine ops_call (ex_call gf13 rfl) (cut_all (nn : Int) s.m s.D s.W _ HB.less.less.here hl.ok.ok (by omega) (by omega) (by omega)) ?_
        rintro r w7 hcut
        obtain ⟨x3, D3, W3, hr, hres, hwp⟩ := cut_some hcut (gone := nn) (by omega) (by omega)
        clear hcut
        obtain ⟨hx3, hrc3, hfs3, htd3, hwt3, q1, hl, Hc⟩ := hl.sc (by omega) (lt_rest2 HB) (by omega) hres hwp (by omega)
        rw [hr, hx3]
        clear hres hwp
        have hf3 : W3.first = nn := by omega
        have hln3 : W3.recs.length = s.W.recs.length - nn := by rw [hrc3, List.length_drop]
        have HB : Hp w0 w7 [] ((⟨mv s.m q1, D3, W3, s.k, s.K⟩ : Sx).rows ++ [((some g4, 4, [.bool false]) : Ent), (some g5, 24, [.pointer (some ⟨gb, 0, none⟩)])]) := HB.front2 Hc
        have H7 := HB.here
        refine ops_false (ex_neq rfl rfl) (by decide) ?_
        refine ops_nil ?_
        change Run _ _ _ _ [_, _, _, _, _, _, _, _, _, _, _, _, _, _, _, _, _, _, _, _, _, _, _, _, _, _, _, _, _, _, _, _, _, _, _, _, _, _, _, _, _, _, _, _, _, _, _, _, _, _, _, _, _, _, _, _, _, _, _, _, _, _, _, _, _, _, _, _, _, _, _, _, _, _, _, _, _, _, _, _, _, _, _, _, _, _, _, _, _, _, _, _, _, _, _, _, _, _, _, _, _, _, _, _, _, _, _, _, _, _, _, _, _, _, _, _, _, _, _, _, _, _, _, _, _, _, _, _, _, _, _, _, _, _, _, _, _, _, _, _, _, _, _, _, _, _, _, _, _, _, _, _, _, _, _, _, _, _, _, _, _, _, _, _, _, _, _, _, _, _, _, _, _, _, _, _, _, _, _, _, _, _, _, _, _, _, _] _
        refine run_cond_false rfl ?_
        refine run_skip ?_
        refine run_seq ?_
        refine run_region rfl (fun _ _ h => h) ?_
        refine ops_val (v := .pointer (some ⟨s.k.gb, 0, none⟩)) (ex_load ty24 rfl (by rw [hgb]; exact H7.cell (i := 9) (o := 0) rfl rfl)) ?_
        refine ops_val (ex_move rfl) ?_
        refine ops_val (ex_nilCheck rfl) ?_
        refine ops_val (ex_fieldAddr fl31_5 rfl) ?_
        refine nO187 ?_
        refine ops_store1 ty3 H7 6 rfl rfl rfl rfl (by first | decide | simp) rfl ?_
        intro w8 H8
        refine ops_nil ?_
        change Run _ _ _ _ [_, _, _, _, _, _, _, _, _, _, _, _, _, _, _, _, _, _, _, _, _, _, _, _, _, _, _, _, _, _, _, _, _, _, _, _, _, _, _, _, _, _, _, _, _, _, _, _, _, _, _, _, _, _, _, _, _, _, _, _, _, _, _, _, _, _, _, _, _, _, _, _, _, _, _, _, _, _, _, _, _, _, _, _, _, _, _, _, _, _, _, _, _, _, _, _, _, _, _, _, _, _, _, _, _, _, _, _, _, _, _, _, _, _, _, _, _, _, _, _, _, _, _, _, _, _, _, _, _, _, _, _, _, _, _, _, _, _, _, _, _, _, _, _, _, _, _, _, _, _, _, _, _, _, _, _, _, _, _, _, _, _, _, _, _, _, _, _, _, _, _, _, _, _, _, _, _, _, _, _, _, _, _, _, _, _, _] _
        refine run_seq ?_
        refine run_region rfl (fun _ _ h => h) ?_
        have HB : Hp w0 w8 [] ((⟨mv s.m q1, D3, W3, s.k, ({ s.K with first := nn } : Bk)⟩ : Sx).rows ++ [((some g4, 4, [.bool false]) : Ent), (some g5, 24, [.pointer (some ⟨gb, 0, none⟩)])]) := HB.all H8
        replace hl : Live w8 (⟨mv s.m q1, D3, W3, s.k, ({ s.K with first := nn } : Bk)⟩ : Sx) [((some g4, 4, [.bool false]) : Ent), (some g5, 24, [.pointer (some ⟨gb, 0, none⟩)])] 1024 (i + 1) := (hl.to H8).re ({ s.K with first := nn } : Bk) rfl
        have hag2 : Agr W3 ({ s.K with first := nn } : Bk) := ⟨by show nn = W3.first; omega, by show s.K.all.length = W3.first + W3.recs.length; omega, by show W3.recs = s.K.all.drop W3.first; rw [hrc3, hag.recs, List.drop_drop, hf3, hf0, Nat.zero_add]⟩
        have hnx2 : s.K.all.length = W3.first + W3.recs.length := hag2.next
        have hrcs : W3.recs = s.K.all.drop W3.first := hag2.recs
        replace H8 := HB.here
        refine ops_val (v := .pointer (some ⟨s.k.gb, 0, none⟩)) (ex_load ty24 rfl (by rw [hgb]; exact H8.cell (i := 9) (o := 0) rfl rfl)) ?_
        refine ops_val (ex_nilCheck rfl) ?_
        refine ops_val (ex_fieldAddr fl31_1 rfl) ?_
        refine ops_val (ex_load ty28 rfl (H8.cell (i := 6) rfl rfl)) ?_
        refine nO187 ?_
        refine ops_call (ex_call gf20 rfl) (all_any (.pointer (some ⟨(mv s.m q1).gv, 0, none⟩)) _ rfl) ?_
        rintro r w9 ⟨gx, hr, Hc⟩
        rw [hr]
        have H9 := H8.call0 Hc
        refine ops_val (ex_assign rfl) ?_
        refine ops_nil ?_
        change Run _ _ _ _ [_, _, _, _, _, _, _, _, _, _, _, _, _, _, _, _, _, _, _, _, _, _, _, _, _, _, _, _, _, _, _, _, _, _, _, _, _, _, _, _, _, _, _, _, _, _, _, _, _, _, _, _, _, _, _, _, _, _, _, _, _, _, _, _, _, _, _, _, _, _, _, _, _, _, _, _, _, _, _, _, _, _, _, _, _, _, _, _, _, _, _, _, _, _, _, _, _, _, _, _, _, _, _, _, _, _, _, _, _, _, _, _, _, _, _, _, _, _, _, _, _, _, _, _, _, _, _, _, _, _, _, _, _, _, _, _, _, _, _, _, _, _, _, _, _, _, _, _, _, _, _, _, _, _, _, _, _, _, _, _, _, _, _, _, _, _, _, _, _, _, _, _, _, _, _, _, _, _, _, _, _, _, _, _, _, _, _] _
        refine run_seq ?_
        refine run_seq ?_
        refine run_region rfl (fun _ _ h => h) ?_
        refine ops_val (ex_move rfl) ?_
        refine ops_val (ex_eql_nil_func Try.underlying46 rfl) ?_
        refine ops_nil ?_
        change Run _ _ _ _ [_, _, _, _, _, _, _, _, _, _, _, _, _, _, _, _, _, _, _, _, _, _, _, _, _, _, _, _, _, _, _, _, _, _, _, _, _, _, _, _, _, _, _, _, _, _, _, _, _, _, _, _, _, _, _, _, _, _, _, _, _, _, _, _, _, _, _, _, _, _, _, _, _, _, _, _, _, _, _, _, _, _, _, _, _, _, _, _, _, _, _, _, _, _, _, _, _, _, _, _, _, _, _, _, _, _, _, _, _, _, _, _, _, _, _, _, _, _, _, _, _, _, _, _, _, _, _, _, _, _, _, _, _, _, _, _, _, _, _, _, _, _, _, _, _, _, _, _, _, _, _, _, _, _, _, _, _, _, _, _, _, _, _, _, _, _, _, _, _, _, _, _, _, _, _, _, _, _, _, _, _, _, _, _, _, _, _] _
        refine run_cond_false rfl ?_
        refine run_skip ?_
        refine run_seq ?_
        refine run_region rfl (fun _ _ h => h) ?_
        refine ops_val (ex_move rfl) ?_
        refine ops_alloc ty3 H9 ?_
        intro w10 g9 H10 hg9
        refine ops_store1 ty3 H10 11 rfl rfl rfl rfl (by decide) rfl ?_
        intro w11 H11
        have hlG : Live w11 (⟨mv s.m q1, D3, W3, s.k, ({ s.K with first := nn } : Bk)⟩ : Sx) ([((some g4, 4, [.bool false]) : Ent), (some g5, 24, [.pointer (some ⟨gb, 0, none⟩)])] ++ [((some gx, 28, [.pointer (some ⟨(mv s.m q1).gv, 0, none⟩)]) : Ent), ((some g9, 3, [.int .i64 ((nn : Nat) : Int)]) : Ent)]) 1024 (i + 1) := hl.grow (G := [((some gx, 28, [.pointer (some ⟨(mv s.m q1).gv, 0, none⟩)]) : Ent), ((some g9, 3, [.int .i64 ((nn : Nat) : Int)]) : Ent)]) H11 rfl
        have HR : Hp w0 w11 [] (((⟨mv s.m q1, D3, W3, s.k, ({ s.K with first := nn } : Bk)⟩ : Sx).rows ++ [((some g4, 4, [.bool false]) : Ent), (some g5, 24, [.pointer (some ⟨gb, 0, none⟩)])]) ++ [((some gx, 28, [.pointer (some ⟨(mv s.m q1).gv, 0, none⟩)]) : Ent), ((some g9, 3, [.int .i64 ((nn : Nat) : Int)]) : Ent)]) := HB.all H11
        have hg9f : ∀ x ∈ recBs (mv s.m q1).xs, x ≠ g9 := fun x hx h9 => by
          have h1 := recBs_lt hl.ok.ok.lst x hx
          rcases Hp.place (i := 11) H11 rfl with h2 | h2
          · exact row_not H11 (i := 11) rfl (is := [0, 1, 2, 3, 4, 5, 6, 7, 8, 9]) (by decide) h2
          · omega
        obtain ⟨wR, hwR⟩ : ∃ x, x = w11 := ⟨_, rfl⟩
        rw [← hwR] at hlG HR ⊢
        refine ops_nil ?_
        change Run _ _ _ _ [_, _, _, _, _, _, _, _, _, _, _, _, _, _, _, _, _, _, _, _, _, _, _, _, _, _, _, _, _, _, _, _, _, _, _, _, _, _, _, _, _, _, _, _, _, _, _, _, _, _, _, _, _, _, _, _, _, _, _, _, _, _, _, _, _, _, _, _, _, _, _, _, _, _, _, _, _, _, _, _, _, _, _, _, _, _, _, _, _, _, _, _, _, _, _, _, _, _, _, _, _, _, _, _, _, _, _, _, _, _, _, _, _, _, _, _, _, _, _, _, _, _, _, _, _, _, _, _, _, _, _, _, _, _, _, _, _, _, _, _, _, _, _, _, _, _, _, _, _, _, _, _, _, _, _, _, _, _, _, _, _, _, _, _, _, _, _, _, _, _, _, _, _, _, _, _, _, _, _, _, _, _, _, _, _, _, _] _
        refine run_seq ?_
        refine run_seq ?_
        refine run_region rfl (fun _ _ h => h) ?_
        refine ops_val (ex_move rfl) ?_
        refine ops_nil ?_
        change Run _ _ _ _ [_, _, _, _, _, _, _, _, _, _, _, _, _, _, _, _, _, _, _, _, _, _, _, _, _, _, _, _, _, _, _, _, _, _, _, _, _, _, _, _, _, _, _, _, _, _, _, _, _, _, _, _, _, _, _, _, _, _, _, _, _, _, _, _, _, _, _, _, _, _, _, _, _, _, _, _, _, _, _, _, _, _, _, _, _, _, _, _, _, _, _, _, _, _, _, _, _, _, _, _, _, _, _, _, _, _, _, _, _, _, _, _, _, _, _, _, _, _, _, _, _, _, _, _, _, _, _, _, _, _, _, _, _, _, _, _, _, _, _, _, _, _, _, _, _, _, _, _, _, _, _, _, _, _, _, _, _, _, _, _, _, _, _, _, _, _, _, _, _, _, _, _, _, _, _, _, _, _, _, _, _, _, _, _, _, _, _] _
        refine run_block ?_
        have hszR := HR.size
        have hgxl := HR.lt (i := 10) rfl
        have hg9l := HR.lt (i := 11) rfl
        have hgvl := HR.lt (i := 3) rfl
        have hn1x : g9 ≠ gx := HR.ne (i := 11) (j := 10) rfl rfl (by decide)
        have hn2x : g9 ≠ (mv s.m q1).gv := HR.ne (i := 11) (j := 3) rfl rfl (by decide)
        refine run_range (ps := [80, 81]) (gf := 53) (lb := [.pointer (some ⟨gx, 0, none⟩)]) (N := W3.recs.length) (B := (gx :: (mv s.m q1).gv :: recBs (mv s.m q1).xs)) Try.func6 rfl gf53
          (It := AllIt wR.heap.size W3)
          (fun w1 Hw1 => by
            have HQ := HR.callN Hw1
            exact all_iter gx (mv s.m q1) D3 W3 w1 HQ.less.less.less.here (hlG.keep0 Hw1).ok.ok (HQ.cell (i := 10) (o := 0) rfl rfl) wR.heap.size Hw1.size)
          (fun x hx => by
            simp only [List.mem_cons] at hx
            rcases hx with rfl | rfl | hx
            · exact hgxl
            · exact hgvl
            · exact recBs_lt hlG.ok.ok.lst x hx)
          (fun k W1 O => O = bl [((some g9, 3, [.int .i64 ((nn : Nat) : Int)]) : Ent)] ∧ Hp wR W1 (bl [((some g9, 3, [.int .i64 ((nn : Nat) : Int)]) : Ent)]) [((some g9, 3, [.int .i64 (((nn + k : Nat) : Int) : Int)]) : Ent)])
          (fun _ _ => False) (fun _ _ => False)
          (bl [((some g9, 3, [.int .i64 ((nn : Nat) : Int)]) : Ent)])
          (fun x hx => by
            have hx3 : x = g9 := by simpa [bl] using hx
            subst hx3
            exact cons_not hn1x hn2x (fun h9 => hg9f _ h9 rfl))
          (fun l args => (((l.set 80 (args.getD 0 undef)).set 81 (args.getD 1 undef)).set 10 (args.getD 0 undef)).set 11 (args.getD 1 undef))
          (fun k W1 O hJ b hb => by
            obtain ⟨rfl, HJ⟩ := hJ
            exact bl_cells HJ b hb)
          (fun k W1 O W2 L hJ hL HL hnl => by
            obtain ⟨h1, HJ⟩ := hJ
            exact ⟨h1, HJ.loop HL hnl hL⟩)
          (fun _ _ _ _ hx => hx.elim)
          (fun k W1 args G hI => by
            obtain ⟨b, g, cap, sp, i1, rfl, i2, i3, i4, rfl, i5, i6⟩ := hI
            refine ⟨rfl, bl_cells i5, fun W2 L HL hL hnl => ⟨b, g, cap, sp, i1, rfl, i2, i3, i4, rfl, ?_, i6⟩⟩
            exact (((i5.wide (S' := bl [((g, 5, u8s b ++ sp) : Ent)] ++ [L]) (fun x hx => List.mem_append.2 (.inl hx))).past HL (fun x hx => .inl (List.mem_append.2 (.inr hx))) (fun x hx hx2 => by
              obtain ⟨arr, T, z, hz⟩ := bl_cells i5 x hx
              rw [List.mem_singleton.1 hx2] at hz
              exact hnl _ _ _ hz))).here)
          ⟨rfl, (HR.pick [11] (by decide)).here.wide (fun x hx => hx)⟩ ?_ ?_ ?_ (fun _ _ _ hx => hx.elim) (fun _ _ _ hx => hx.elim)
        · rintro k W1 args G L ⟨b, gn, cn, sn, _, rfl, _⟩
          change Run _ _ _ _ [_, _, _, _, _, _, _, _, _, _, _, _, _, _, _, _, _, _, _, _, _, _, _, _, _, _, _, _, _, _, _, _, _, _, _, _, _, _, _, _, _, _, _, _, _, _, _, _, _, _, _, _, _, _, _, _, _, _, _, _, _, _, _, _, _, _, _, _, _, _, _, _, _, _, _, _, _, _, _, _, _, _, _, _, _, _, _, _, _, _, _, _, _, _, _, _, _, _, _, _, _, _, _, _, _, _, _, _, _, _, _, _, _, _, _, _, _, _, _, _, _, _, _, _, _, _, _, _, _, _, _, _, _, _, _, _, _, _, _, _, _, _, _, _, _, _, _, _, _, _, _, _, _, _, _, _, _, _, _, _, _, _, _, _, _, _, _, _, _, _, _, _, _, _, _, _, _, _, _, _, _, _, _, _, _, _, _] _
          refine run_seq ?_
          refine run_region rfl (fun _ _ h => (by cases h.1)) ?_
          refine ops_val (ex_assign rfl) ?_
          refine ops_nil ?_
          change Run _ _ _ _ [_, _, _, _, _, _, _, _, _, _, _, _, _, _, _, _, _, _, _, _, _, _, _, _, _, _, _, _, _, _, _, _, _, _, _, _, _, _, _, _, _, _, _, _, _, _, _, _, _, _, _, _, _, _, _, _, _, _, _, _, _, _, _, _, _, _, _, _, _, _, _, _, _, _, _, _, _, _, _, _, _, _, _, _, _, _, _, _, _, _, _, _, _, _, _, _, _, _, _, _, _, _, _, _, _, _, _, _, _, _, _, _, _, _, _, _, _, _, _, _, _, _, _, _, _, _, _, _, _, _, _, _, _, _, _, _, _, _, _, _, _, _, _, _, _, _, _, _, _, _, _, _, _, _, _, _, _, _, _, _, _, _, _, _, _, _, _, _, _, _, _, _, _, _, _, _, _, _, _, _, _, _, _, _, _, _, _] _
          refine run_region rfl (fun _ _ h => (by cases h.1)) ?_
          refine ops_val (ex_assign rfl) ?_
          refine ops_nil ?_
          change Run _ _ _ _ [_, _, _, _, _, _, _, _, _, _, _, _, _, _, _, _, _, _, _, _, _, _, _, _, _, _, _, _, _, _, _, _, _, _, _, _, _, _, _, _, _, _, _, _, _, _, _, _, _, _, _, _, _, _, _, _, _, _, _, _, _, _, _, _, _, _, _, _, _, _, _, _, _, _, _, _, _, _, _, _, _, _, _, _, _, _, _, _, _, _, _, _, _, _, _, _, _, _, _, _, _, _, _, _, _, _, _, _, _, _, _, _, _, _, _, _, _, _, _, _, _, _, _, _, _, _, _, _, _, _, _, _, _, _, _, _, _, _, _, _, _, _, _, _, _, _, _, _, _, _, _, _, _, _, _, _, _, _, _, _, _, _, _, _, _, _, _, _, _, _, _, _, _, _, _, _, _, _, _, _, _, _, _, _, _, _, _] _
          refine run_nil ?_
          exact ⟨rfl, rfl, rfl, rfl⟩
        · rintro k W1 O args G L hk ⟨rfl, HJ⟩ ⟨b, gn, cn, sn, hbk, rfl, i2, i3, i4, rfl, i5, i6⟩ hGO
          have HB1 : Hp W1 W1 (bl [((some g9, 3, [.int .i64 ((nn : Nat) : Int)]) : Ent), ((gn, 5, u8s b ++ sn) : Ent)]) [((some g9, 3, [.int .i64 (((nn + k : Nat) : Int) : Int)]) : Ent), ((gn, 5, u8s b ++ sn) : Ent)] := HJ.here.both i5 (fun x hx hx2 => hGO x hx2 hx)
          have HR1 : Hp w0 W1 [] (((⟨mv s.m q1, D3, W3, s.k, ({ s.K with first := nn } : Bk)⟩ : Sx).rows ++ [((some g4, 4, [.bool false]) : Ent), (some g5, 24, [.pointer (some ⟨gb, 0, none⟩)])]) ++ [((some gx, 28, [.pointer (some ⟨(mv s.m q1).gv, 0, none⟩)]) : Ent), ((some g9, 3, [.int .i64 (((nn + k : Nat) : Int) : Int)]) : Ent)]) := (HR.callr [11] rfl HJ).pick [0, 1, 2, 3, 4, 5, 6, 7, 8, 9, 10, 12] (by decide)
          have hnot : ∀ i g T cs, (((⟨mv s.m q1, D3, W3, s.k, ({ s.K with first := nn } : Bk)⟩ : Sx).rows ++ [((some g4, 4, [.bool false]) : Ent), (some g5, 24, [.pointer (some ⟨gb, 0, none⟩)])]) ++ [((some gx, 28, [.pointer (some ⟨(mv s.m q1).gv, 0, none⟩)]) : Ent), ((some g9, 3, [.int .i64 ((nn : Nat) : Int)]) : Ent)])[i]? = some (some g, T, cs) → i ≠ 11 → g ∉ (bl [((some g9, 3, [.int .i64 ((nn : Nat) : Int)]) : Ent), ((gn, 5, u8s b ++ sn) : Ent)]) := by
            intro i g T cs hi hne hx
            have hx2 : g = g9 ∨ gn = some g := by
              have h1 : g ∈ bl [((some g9, 3, [.int .i64 ((nn : Nat) : Int)]) : Ent)] ∨ g ∈ bl [((gn, 5, u8s b ++ sn) : Ent)] := by rw [← List.mem_append, ← bl_append]; exact hx
              rcases h1 with h1 | h1
              · exact .inl (by simpa [bl] using h1)
              · exact .inr (by simpa [bl] using h1)
            rcases hx2 with rfl | h2
            · exact HR.ne hi (j := 11) rfl hne rfl
            · have h3 := HR.lt hi
              have h4 := i6 g (by simp [bl, h2])
              omega
          obtain ⟨hlt, hbe⟩ := at_drop hrcs hbk
          rw [hf3] at hlt
          have hbe : s.K.all[nn + k] = b := by
            have h1 : s.K.all[W3.first + k] = b := hbe
            simp only [hf3] at h1
            exact h1
          have hblen : b.length ≤ 16384 := hl.ok.ok.long b (List.mem_of_getElem? hbk)
          have hall1 : Lsw W1 [((some g9, 3, [.int .i64 (((nn + k : Nat) : Int) : Int)]) : Ent), ((gn, 5, u8s b ++ sn) : Ent)] s.k.ys s.K.all := hlG.ok.all.keep HJ (fun x hx => by
            have h9 : x = g9 := by simpa [bl] using hx
            rw [h9]
            exact List.mem_filterMap.2 ⟨((some g9, 3, [.int .i64 ((nn : Nat) : Int)]) : Ent), List.mem_of_getElem? (i := 11) rfl, rfl⟩) (fun x hx => by
            have h1 : x ∈ bl [((some g9, 3, [.int .i64 ((nn : Nat) : Int)]) : Ent)] ∨ x ∈ bl [((gn, 5, u8s b ++ sn) : Ent)] := by rw [← List.mem_append, ← bl_append]; exact hx
            rcases h1 with h1 | h1
            · have h9 : x = g9 := by simpa [bl] using h1
              rw [h9]
              exact .inl (List.mem_filterMap.2 ⟨((some g9, 3, [.int .i64 ((nn : Nat) : Int)]) : Ent), List.mem_of_getElem? (i := 11) rfl, rfl⟩)
            · exact .inr (i6 x h1))
          obtain ⟨Be, ce, hye, hre, hae⟩ := hall1.2 (nn + k) hlt
          rw [hbe] at hye hre hae
          obtain ⟨gy, hgy⟩ : ∃ gy, s.k.ga = some gy := own_some HR1 (i := 7) rfl (by rw [List.length_append, hall1.1]; omega)
          have hc5 := HR1.cell (i := 9) (o := 0) rfl rfl
          have n5 := hnot 9 _ _ _ rfl (by decide)
          have hcb : W1.cell? ⟨gb, 2, none⟩ = some (.slice (some ⟨gy, 0, none⟩) s.K.all.length s.k.ca) := by
            rw [← hgb]
            have h1 := HR1.cell (i := 6) (o := 2) (v := .slice (hd s.k.ga) s.K.all.length s.k.ca) rfl rfl
            rw [hgy] at h1
            exact h1
          have nb : gb ∉ (bl [((some g9, 3, [.int .i64 ((nn : Nat) : Int)]) : Ent), ((gn, 5, u8s b ++ sn) : Ent)]) := by rw [← hgb]; exact hnot 6 _ _ _ rfl (by decide)
          have hysR : Rd W1 (some ⟨gy, 0, none⟩) s.K.all.length 1 s.k.ys := by
            have h1 := HR1.rd (i := 7) (o := s.k.ga) (xs := s.k.ys) (sp := s.k.sa) rfl (by rw [hall1.1, Nat.mul_one]) (by decide)
            rw [hgy] at h1
            exact h1
          have ny : ∀ p : Addr, (some ⟨gy, 0, none⟩ : Option Addr) = some p → p.block ∉ (bl [((some g9, 3, [.int .i64 ((nn : Nat) : Int)]) : Ent), ((gn, 5, u8s b ++ sn) : Ent)]) := by
            intro p hp
            simp only [Option.some.injEq] at hp
            subst hp
            have h1 : (((⟨mv s.m q1, D3, W3, s.k, ({ s.K with first := nn } : Bk)⟩ : Sx).rows ++ [((some g4, 4, [.bool false]) : Ent), (some g5, 24, [.pointer (some ⟨gb, 0, none⟩)])]) ++ [((some gx, 28, [.pointer (some ⟨(mv s.m q1).gv, 0, none⟩)]) : Ent), ((some g9, 3, [.int .i64 ((nn : Nat) : Int)]) : Ent)])[7]? = some (some gy, 34, s.k.ys ++ s.k.sa) := by rw [← hgy]; rfl
            exact hnot 7 _ _ _ h1 (by decide)
          change Run _ _ _ _ [_, _, _, _, _, _, _, _, _, _, _, _, _, _, _, _, _, _, _, _, _, _, _, _, _, _, _, _, _, _, _, _, _, _, _, _, _, _, _, _, _, _, _, _, _, _, _, _, _, _, _, _, _, _, _, _, _, _, _, _, _, _, _, _, _, _, _, _, _, _, _, _, _, _, _, _, _, _, _, _, _, _, _, _, _, _, _, _, _, _, _, _, _, _, _, _, _, _, _, _, _, _, _, _, _, _, _, _, _, _, _, _, _, _, _, _, _, _, _, _, _, _, _, _, _, _, _, _, _, _, _, _, _, _, _, _, _, _, _, _, _, _, _, _, _, _, _, _, _, _, _, _, _, _, _, _, _, _, _, _, _, _, _, _, _, _, _, _, _, _, _, _, _, _, _, _, _, _, _, _, _, _, _, _, _, _, _] _
          refine run_block ?_
          refine run_seq ?_
          refine run_seq ?_
          refine run_mixZ 23 [(true, 0), (true, 1), (true, 2), (true, 3), (true, 4), (true, 5), (true, 6), (true, 7), (true, 8), (true, 9), (true, 10), (true, 11), (true, 12), (true, 13), (true, 14), (true, 15), (true, 16), (true, 17), (true, 18), (true, 19), (true, 20), (false, 21), (true, 22), (false, 23)] HB1 [0, 1] mixed (by decide) (by kernel_rfl) rfl ?_
          rintro w12 hw12
          have H12 := Hp.drew HB1; rw [← hw12] at H12
          refine mixz_p rfl ?_
          refine mix1_val (fun wz hz => ex_move rfl) ?_
          refine mixz_p rfl ?_
          refine mix1_val (fun wz hz => ex_load ty3 rfl (hz.cell (i := 0) rfl rfl)) ?_
          refine mixz_p rfl ?_
          refine mix1_false (fun wz hz => ex_neq rfl rfl) (by omega) ?_
          refine mixz_p rfl ?_
          refine mix1_val (fun wz hz => ex_move rfl) ?_
          refine nZ187 ?_
          refine mixz_p rfl ?_
          refine mix1_yes rfl ?_
          refine mix1_val (fun wz hz => ex_load ty3 rfl (hz.cell (i := 0) rfl rfl)) ?_
          refine mixz_p rfl ?_
          refine mix1_yes rfl ?_
          refine mix1_val (fun wz hz => ex_load ty24 rfl (cell_toW hc5 hz n5)) ?_
          refine mixz_p rfl ?_
          refine mix1_yes rfl ?_
          refine mix1_val (fun wz hz => ex_nilCheck rfl) ?_
          refine mixz_p rfl ?_
          refine mix1_yes rfl ?_
          refine mix1_val (fun wz hz => ex_fieldAddr fl31_2 rfl) ?_
          refine nZ187 ?_
          refine mixz_p rfl ?_
          refine mix1_yes rfl ?_
          refine mix1_val (fun wz hz => ex_load ty29 rfl (cell_toW hcb hz nb)) ?_
          refine mixz_p rfl ?_
          refine mix1_yes rfl ?_
          refine mix1_val (fun wz hz => ex_len_slice Try.underlying29 rfl) ?_
          refine mixz_p rfl ?_
          refine mix1_yes rfl ?_
          refine mix1_false (fun wz hz => ex_geq rfl rfl) (by omega) ?_
          refine mixz_p rfl ?_
          refine mix1_val (fun wz hz => ex_pick_f rfl rfl) ?_
          refine nZ187 ?_
          refine mixz_p rfl ?_
          refine mix1_val (fun wz hz => ex_move rfl) ?_
          refine mixz_p rfl ?_
          refine mix1_yes rfl ?_
          refine mix1_val (fun wz hz => ex_move rfl) ?_
          refine mixz_p rfl ?_
          refine mix1_yes rfl ?_
          refine mix1_val (fun wz hz => ex_load ty24 rfl (cell_toW hc5 hz n5)) ?_
          refine mixz_p rfl ?_
          refine mix1_yes rfl ?_
          refine mix1_val (fun wz hz => ex_nilCheck rfl) ?_
          refine nZ187 ?_
          refine mixz_p rfl ?_
          refine mix1_yes rfl ?_
          refine mix1_val (fun wz hz => ex_fieldAddr fl31_2 rfl) ?_
          refine mixz_p rfl ?_
          refine mix1_yes rfl ?_
          refine mix1_val (fun wz hz => ex_load ty29 rfl (cell_toW hcb hz nb)) ?_
          refine mixz_p rfl ?_
          refine mix1_yes rfl ?_
          refine mix1_val (fun wz hz => ex_load ty3 rfl (hz.cell (i := 0) rfl rfl)) ?_
          refine mixz_p rfl ?_
          refine mix1_yes rfl ?_
          refine mix1_val (fun wz hz => ex_idx Try.underlying29 ty34 rfl rfl (i := nn + k) rfl hlt (Nat.mul_one _)) ?_
          refine nZ187 ?_
          refine mixz_p rfl ?_
          refine mix1_yes rfl ?_
          refine mix1_val (fun wz hz => ex_load ty34 rfl ((hysR.to hz ny).cells _ rfl (nn + k) _ hye)) ?_
          refine mixz_o rfl ?_
          refine ops_yes rfl ?_
          have hk2 := bytes_any (hd gn) Be b b cn ce w12 (H12.rd (i := 1) (o := gn) (xs := u8s b) (sp := sn) rfl (u8s_length1 _) (by decide)) (Rd.fcw hre H12 hae) (by omega) (by omega)
          rw [decide_eq_true rfl] at hk2
          refine ops_call_val (ex_call gf21 rfl) hk2 ?_
          intro w13 Hd
          have H13 := H12.callN Hd
          refine ops_nil ?_
          refine ⟨fun hne => H13.pick [0, 1] (by decide), ?_⟩
          refine nZ187 ?_
          refine mixz_p rfl ?_
          refine mix1_yes rfl ?_
          refine mix1_val (fun wz hz => ex_not rfl) ?_
          refine mixz_o rfl ?_
          refine ops_val (ex_pick_f rfl rfl) ?_
          refine ops_nil ?_
          refine ⟨fun hne => absurd rfl hne, ?_⟩
          refine nZ187 ?_
          refine mixz_nil ?_
          change Run _ _ _ _ [_, _, _, _, _, _, _, _, _, _, _, _, _, _, _, _, _, _, _, _, _, _, _, _, _, _, _, _, _, _, _, _, _, _, _, _, _, _, _, _, _, _, _, _, _, _, _, _, _, _, _, _, _, _, _, _, _, _, _, _, _, _, _, _, _, _, _, _, _, _, _, _, _, _, _, _, _, _, _, _, _, _, _, _, _, _, _, _, _, _, _, _, _, _, _, _, _, _, _, _, _, _, _, _, _, _, _, _, _, _, _, _, _, _, _, _, _, _, _, _, _, _, _, _, _, _, _, _, _, _, _, _, _, _, _, _, _, _, _, _, _, _, _, _, _, _, _, _, _, _, _, _, _, _, _, _, _, _, _, _, _, _, _, _, _, _, _, _, _, _, _, _, _, _, _, _, _, _, _, _, _, _, _, _, _, _, _] _
          refine run_cond_false rfl ?_
          refine run_skip ?_
          refine run_seq ?_
          refine run_seq ?_
          refine run_region rfl (fun _ _ h => h) ?_
          refine ops_val (ex_assign rfl) ?_
          refine ops_nil ?_
          change Run _ _ _ _ [_, _, _, _, _, _, _, _, _, _, _, _, _, _, _, _, _, _, _, _, _, _, _, _, _, _, _, _, _, _, _, _, _, _, _, _, _, _, _, _, _, _, _, _, _, _, _, _, _, _, _, _, _, _, _, _, _, _, _, _, _, _, _, _, _, _, _, _, _, _, _, _, _, _, _, _, _, _, _, _, _, _, _, _, _, _, _, _, _, _, _, _, _, _, _, _, _, _, _, _, _, _, _, _, _, _, _, _, _, _, _, _, _, _, _, _, _, _, _, _, _, _, _, _, _, _, _, _, _, _, _, _, _, _, _, _, _, _, _, _, _, _, _, _, _, _, _, _, _, _, _, _, _, _, _, _, _, _, _, _, _, _, _, _, _, _, _, _, _, _, _, _, _, _, _, _, _, _, _, _, _, _, _, _, _, _, _] _
          refine run_block ?_
          refine run_loop (fun n l w => ∃ (iz : Nat) (y4 : Int) (cs : List Value), b.length - iz = n ∧ Fits [none, none, none, none, some (.pointer (some ⟨g4, 0, none⟩)), some (.pointer (some ⟨g5, 0, none⟩)), none, none, none, some (.pointer (some ⟨g9, 0, none⟩)), none, some (.slice (hd gn) b.length cn), some (.int .i64 y4), none, none, none, none, none, none, none, none, none, none, none, none, none, none, none, none, none, none, none, none, none, none, none, none, none, none, none, none, none, none, none, none, none, none, none, none, none, none, none, none, none, none, none, none, none, none, none, none, none, none, none, none, none, none, none, none, none, none, none, none, none, none, none, none, none, none, none, none, none, none, none, none, none, none, none, none, none, none, none, none, none, none, none, none, none, none, none, none, none, none, none, none, none, none, none, none, none, none, none, none, none, none, none, none, none, none, none, none, none, none, none, none, none, none, none, none, none, none, none, none, none, none, none, none, none, none, none, none, none, none, none, none, none, none, none, none, none, none, none, none, none, none, none, none, none, none, none, none, none, none, none, none, none, none, none, none, none, none, none, none, none, none, none, none, none, none, none, none, none, none, none, none, none, none] l ∧ y4 = (iz : Int) ∧ iz ≤ b.length ∧ b.length ≤ cs.length ∧ Hp W1 w (bl [((some g9, 3, [.int .i64 ((nn : Nat) : Int)]) : Ent), ((gn, 5, u8s b ++ sn) : Ent)]) [((some g9, 3, [.int .i64 (((nn + k : Nat) : Int) : Int)]) : Ent), ((gn, 5, cs) : Ent)]) (b.length) ?_ ?_
          · exact ⟨0, _, _, rfl, (fn (fn (fn (fn (fs (fs (fn (fn (fn (fs (fn (fs (fs (fn (fn (fn (fn (fn (fn (fn (fn (fn (fn (fn (fn (fn (fn (fn (fn (fn (fn (fn (fn (fn (fn (fn (fn (fn (fn (fn (fn (fn (fn (fn (fn (fn (fn (fn (fn (fn (fn (fn (fn (fn (fn (fn (fn (fn (fn (fn (fn (fn (fn (fn (fn (fn (fn (fn (fn (fn (fn (fn (fn (fn (fn (fn (fn (fn (fn (fn (fn (fn (fn (fn (fn (fn (fn (fn (fn (fn (fn (fn (fn (fn (fn (fn (fn (fn (fn (fn (fn (fn (fn (fn (fn (fn (fn (fn (fn (fn (fn (fn (fn (fn (fn (fn (fn (fn (fn (fn (fn (fn (fn (fn (fn (fn (fn (fn (fn (fn (fn (fn (fn (fn (fn (fn (fn (fn (fn (fn (fn (fn (fn (fn (fn (fn (fn (fn (fn (fn (fn (fn (fn (fn (fn (fn (fn (fn (fn (fn (fn (fn (fn (fn (fn (fn (fn (fn (fn (fn (fn (fn (fn (fn (fn (fn (fn (fn (fn (fn (fn (fn (fn (fn (fn (fn (fn f0))))))))))))))))))))))))))))))))))))))))))))))))))))))))))))))))))))))))))))))))))))))))))))))))))))))))))))))))))))))))))))))))))))))))))))))))))))))))))))))))))))))))))))))))))))))))))), rfl, Nat.zero_le _, by rw [List.length_append, u8s_length]; omega, H13⟩
          · rintro n l w14 ⟨iz, y4, cs, rfl, hfit, rfl, hiz, hcl, H14⟩
            obtain ⟨j, rfl⟩ := hfit.open
            change Run _ _ _ _ [_, _, _, _, _, _, _, _, _, _, _, _, _, _, _, _, _, _, _, _, _, _, _, _, _, _, _, _, _, _, _, _, _, _, _, _, _, _, _, _, _, _, _, _, _, _, _, _, _, _, _, _, _, _, _, _, _, _, _, _, _, _, _, _, _, _, _, _, _, _, _, _, _, _, _, _, _, _, _, _, _, _, _, _, _, _, _, _, _, _, _, _, _, _, _, _, _, _, _, _, _, _, _, _, _, _, _, _, _, _, _, _, _, _, _, _, _, _, _, _, _, _, _, _, _, _, _, _, _, _, _, _, _, _, _, _, _, _, _, _, _, _, _, _, _, _, _, _, _, _, _, _, _, _, _, _, _, _, _, _, _, _, _, _, _, _, _, _, _, _, _, _, _, _, _, _, _, _, _, _, _, _, _, _, _, _, _] _
            clear hfit
            refine run_seq ?_
            refine run_seq ?_
            refine run_region rfl (fun _ _ h => h) ?_
            refine ops_val (ex_move rfl) ?_
            refine ops_val (ex_move rfl) ?_
            refine ops_val (ex_len_slice Try.underlying34 rfl) ?_
            refine ops_test (ex_lss rfl rfl) (fun hp109 => ?_) (fun hp109 => ?_)
            · have hil : iz < b.length := by omega
              obtain ⟨gz, rfl⟩ := own_some H14 (i := 1) rfl (by omega)
              refine ops_nil ?_
              change Run _ _ _ _ [_, _, _, _, _, _, _, _, _, _, _, _, _, _, _, _, _, _, _, _, _, _, _, _, _, _, _, _, _, _, _, _, _, _, _, _, _, _, _, _, _, _, _, _, _, _, _, _, _, _, _, _, _, _, _, _, _, _, _, _, _, _, _, _, _, _, _, _, _, _, _, _, _, _, _, _, _, _, _, _, _, _, _, _, _, _, _, _, _, _, _, _, _, _, _, _, _, _, _, _, _, _, _, _, _, _, _, _, _, _, _, _, _, _, _, _, _, _, _, _, _, _, _, _, _, _, _, _, _, _, _, _, _, _, _, _, _, _, _, _, _, _, _, _, _, _, _, _, _, _, _, _, _, _, _, _, _, _, _, _, _, _, _, _, _, _, _, _, _, _, _, _, _, _, _, _, _, _, _, _, _, _, _, _, _, _, _] _
              refine run_cond_true rfl ?_
              refine run_skip ?_
              refine run_seq ?_
              refine run_block ?_
              refine run_region rfl (fun _ _ h => h) ?_
              refine ops_val (ex_move rfl) ?_
              refine ops_val (ex_move rfl) ?_
              refine ops_val (ex_idx Try.underlying34 ty5 rfl rfl rfl hil (Nat.mul_one _)) ?_
              rw [Addr.add_lit]
              refine ops_store1 ty5 H14 1 rfl rfl rfl rfl (by omega) rfl ?_
              intro w15 H15
              refine ops_nil ?_
              change Run _ _ _ _ [_, _, _, _, _, _, _, _, _, _, _, _, _, _, _, _, _, _, _, _, _, _, _, _, _, _, _, _, _, _, _, _, _, _, _, _, _, _, _, _, _, _, _, _, _, _, _, _, _, _, _, _, _, _, _, _, _, _, _, _, _, _, _, _, _, _, _, _, _, _, _, _, _, _, _, _, _, _, _, _, _, _, _, _, _, _, _, _, _, _, _, _, _, _, _, _, _, _, _, _, _, _, _, _, _, _, _, _, _, _, _, _, _, _, _, _, _, _, _, _, _, _, _, _, _, _, _, _, _, _, _, _, _, _, _, _, _, _, _, _, _, _, _, _, _, _, _, _, _, _, _, _, _, _, _, _, _, _, _, _, _, _, _, _, _, _, _, _, _, _, _, _, _, _, _, _, _, _, _, _, _, _, _, _, _, _, _] _
              refine run_nil (blk_normal ?_)
              refine run_region rfl (fun _ _ h => h) ?_
              refine ops_val (ex_move rfl) ?_
              refine ops_val (ex_add rfl rfl (IntWalk.i64_in _ (by omega))) ?_
              refine ops_val (ex_assign rfl) ?_
              refine ops_nil ?_
              change Run _ _ _ _ [_, _, _, _, _, _, _, _, _, _, _, _, _, _, _, _, _, _, _, _, _, _, _, _, _, _, _, _, _, _, _, _, _, _, _, _, _, _, _, _, _, _, _, _, _, _, _, _, _, _, _, _, _, _, _, _, _, _, _, _, _, _, _, _, _, _, _, _, _, _, _, _, _, _, _, _, _, _, _, _, _, _, _, _, _, _, _, _, _, _, _, _, _, _, _, _, _, _, _, _, _, _, _, _, _, _, _, _, _, _, _, _, _, _, _, _, _, _, _, _, _, _, _, _, _, _, _, _, _, _, _, _, _, _, _, _, _, _, _, _, _, _, _, _, _, _, _, _, _, _, _, _, _, _, _, _, _, _, _, _, _, _, _, _, _, _, _, _, _, _, _, _, _, _, _, _, _, _, _, _, _, _, _, _, _, _, _] _
              refine run_nil (rnd_normal ?_)
              refine ⟨rfl, ?_⟩
              exact ⟨b.length - (iz + 1), by omega, iz + 1, _, cs.set (0 + iz) (.int .u8 99), rfl, (fn (fn (fn (fn (fs (fs (fn (fn (fn (fs (fn (fs (fs (fn (fn (fn (fn (fn (fn (fn (fn (fn (fn (fn (fn (fn (fn (fn (fn (fn (fn (fn (fn (fn (fn (fn (fn (fn (fn (fn (fn (fn (fn (fn (fn (fn (fn (fn (fn (fn (fn (fn (fn (fn (fn (fn (fn (fn (fn (fn (fn (fn (fn (fn (fn (fn (fn (fn (fn (fn (fn (fn (fn (fn (fn (fn (fn (fn (fn (fn (fn (fn (fn (fn (fn (fn (fn (fn (fn (fn (fn (fn (fn (fn (fn (fn (fn (fn (fn (fn (fn (fn (fn (fn (fn (fn (fn (fn (fn (fn (fn (fn (fn (fn (fn (fn (fn (fn (fn (fn (fn (fn (fn (fn (fn (fn (fn (fn (fn (fn (fn (fn (fn (fn (fn (fn (fn (fn (fn (fn (fn (fn (fn (fn (fn (fn (fn (fn (fn (fn (fn (fn (fn (fn (fn (fn (fn (fn (fn (fn (fn (fn (fn (fn (fn (fn (fn (fn (fn (fn (fn (fn (fn (fn (fn (fn (fn (fn (fn (fn (fn (fn (fn (fn (fn (fn (fn f0))))))))))))))))))))))))))))))))))))))))))))))))))))))))))))))))))))))))))))))))))))))))))))))))))))))))))))))))))))))))))))))))))))))))))))))))))))))))))))))))))))))))))))))))))))))))))), by omega, by omega, by rw [List.length_set]; exact hcl, H15⟩
            · skip
              refine ops_nil ?_
              change Run _ _ _ _ [_, _, _, _, _, _, _, _, _, _, _, _, _, _, _, _, _, _, _, _, _, _, _, _, _, _, _, _, _, _, _, _, _, _, _, _, _, _, _, _, _, _, _, _, _, _, _, _, _, _, _, _, _, _, _, _, _, _, _, _, _, _, _, _, _, _, _, _, _, _, _, _, _, _, _, _, _, _, _, _, _, _, _, _, _, _, _, _, _, _, _, _, _, _, _, _, _, _, _, _, _, _, _, _, _, _, _, _, _, _, _, _, _, _, _, _, _, _, _, _, _, _, _, _, _, _, _, _, _, _, _, _, _, _, _, _, _, _, _, _, _, _, _, _, _, _, _, _, _, _, _, _, _, _, _, _, _, _, _, _, _, _, _, _, _, _, _, _, _, _, _, _, _, _, _, _, _, _, _, _, _, _, _, _, _, _, _] _
              refine run_cond_false rfl ?_
              refine run_exit ?_
              refine rnd_exit ?_
              refine blk_exit ?_
              refine run_region rfl (fun _ _ h => h) ?_
              refine ops_val (ex_load ty3 rfl (H14.cell (i := 0) rfl rfl)) ?_
              refine ops_val (ex_add rfl rfl ((IntWalk.i64_in _ (by omega)).trans (show (((nn + k : Nat) : Int) + 1) = ((nn + (k + 1) : Nat) : Int) by omega))) ?_
              refine ops_store1 ty3 H14 0 rfl rfl rfl rfl (by first | decide | simp) rfl ?_
              intro w15 H15
              refine ops_nil ?_
              change Run _ _ _ _ [_, _, _, _, _, _, _, _, _, _, _, _, _, _, _, _, _, _, _, _, _, _, _, _, _, _, _, _, _, _, _, _, _, _, _, _, _, _, _, _, _, _, _, _, _, _, _, _, _, _, _, _, _, _, _, _, _, _, _, _, _, _, _, _, _, _, _, _, _, _, _, _, _, _, _, _, _, _, _, _, _, _, _, _, _, _, _, _, _, _, _, _, _, _, _, _, _, _, _, _, _, _, _, _, _, _, _, _, _, _, _, _, _, _, _, _, _, _, _, _, _, _, _, _, _, _, _, _, _, _, _, _, _, _, _, _, _, _, _, _, _, _, _, _, _, _, _, _, _, _, _, _, _, _, _, _, _, _, _, _, _, _, _, _, _, _, _, _, _, _, _, _, _, _, _, _, _, _, _, _, _, _, _, _, _, _, _] _
              refine run_nil (blk_normal ?_)
              refine run_nil ?_
              refine ⟨rfl, H15.noRows.wide (fun x hx => by
                rw [← bl_append]; exact hx), _, fun x hx => .inl (List.mem_append.2 (.inl hx)), rfl, HJ.step (H15.pick [0] (by decide)) (fun x hx => ?_)⟩
              have h1 : x ∈ bl [((some g9, 3, [.int .i64 ((nn : Nat) : Int)]) : Ent)] ∨ x ∈ bl [((gn, 5, u8s b ++ sn) : Ent)] := by rw [← List.mem_append, ← bl_append]; exact hx
              rcases h1 with h1 | h1
              · exact .inl h1
              · exact .inr (i6 x h1)
        · rintro Dm W1 O ⟨rfl, HJ⟩ hDm hDl
          have HB : Hp w0 W1 [] ((⟨mv s.m q1, D3, W3, s.k, ({ s.K with first := nn } : Bk)⟩ : Sx).rows ++ ([((some g4, 4, [.bool false]) : Ent), (some g5, 24, [.pointer (some ⟨gb, 0, none⟩)])] ++ [((some gx, 28, [.pointer (some ⟨(mv s.m q1).gv, 0, none⟩)]) : Ent), ((some g9, 3, [.int .i64 (((nn + W3.recs.length : Nat) : Int) : Int)]) : Ent)])) := (HR.callr [11] rfl HJ).pick [0, 1, 2, 3, 4, 5, 6, 7, 8, 9, 10, 12] (by decide)
          have hokD := hlG.ok.keepF (F' := ([((some g4, 4, [.bool false]) : Ent), (some g5, 24, [.pointer (some ⟨gb, 0, none⟩)])] ++ [((some gx, 28, [.pointer (some ⟨(mv s.m q1).gv, 0, none⟩)]) : Ent), ((some g9, 3, [.int .i64 (((nn + W3.recs.length : Nat) : Int) : Int)]) : Ent)])) HJ (fun x hx => by
            have h9 : x = g9 := by simpa [bl] using hx
            rw [h9]
            exact List.mem_filterMap.2 ⟨((some g9, 3, [.int .i64 ((nn : Nat) : Int)]) : Ent), List.mem_of_getElem? (i := 11) rfl, rfl⟩) (fun x hx => .inl (by rw [bl_append]; exact List.mem_append.2 (.inr hx)))
          have hlD : Live W1 (⟨mv s.m q1, D3, W3, s.k, ({ s.K with first := nn } : Bk)⟩ : Sx) ([((some g4, 4, [.bool false]) : Ent), (some g5, 24, [.pointer (some ⟨gb, 0, none⟩)])] ++ [((some gx, 28, [.pointer (some ⟨(mv s.m q1).gv, 0, none⟩)]) : Ent), ((some g9, 3, [.int .i64 (((nn + W3.recs.length : Nat) : Int) : Int)]) : Ent)]) 1024 (i + 1) := { hlG with ok := hokD }
          have hDn : Dm ∉ bl ((⟨mv s.m q1, D3, W3, s.k, ({ s.K with first := nn } : Bk)⟩ : Sx).rows ++ ([((some g4, 4, [.bool false]) : Ent), (some g5, 24, [.pointer (some ⟨gb, 0, none⟩)])] ++ [((some gx, 28, [.pointer (some ⟨(mv s.m q1).gv, 0, none⟩)]) : Ent), ((some g9, 3, [.int .i64 (((nn + W3.recs.length : Nat) : Int) : Int)]) : Ent)])) := fun hx => by obtain ⟨arr, T, z, hh⟩ := bl_cells HB Dm hx; rw [hDm] at hh; cases hh
          have HD0 := HB
          have HJ0 := HB.here
          refine run_nil (blk_normal ?_)
          refine run_seq ?_
          refine run_region rfl (fun _ _ h => h) ?_
          refine ops_val (v := .pointer (some ⟨s.k.gb, 0, none⟩)) (ex_load ty24 rfl (by rw [hgb]; exact HJ0.cell (i := 9) (o := 0) rfl rfl)) ?_
          refine ops_val (ex_nilCheck rfl) ?_
          refine ops_val (ex_fieldAddr fl31_1 rfl) ?_
          refine ops_val (ex_load ty28 rfl (HJ0.cell (i := 6) rfl rfl)) ?_
          refine nO187 ?_
          refine ops_call (ex_call gf17 rfl) ((Rn.records_any (mv s.m q1) D3 W3 _ HJ0.less.less.here hlD.ok.ok).d (fun _ _ hx => hx)) ?_
          rintro r w12 ⟨g12, cap, ys, sp, hr, hcap, hcs, hgn, hown, hsep, Hc⟩
          rw [hr]
          have hoz := hown.weak
          have hzc := hown.cells
          replace hDm := keepD hDm Hc (fun _ hx => by cases hx)
          have HBA : Hp w0 w12 [] (((⟨mv s.m q1, D3, W3, s.k, ({ s.K with first := nn } : Bk)⟩ : Sx).rows ++ ([((some g4, 4, [.bool false]) : Ent), (some g5, 24, [.pointer (some ⟨gb, 0, none⟩)])] ++ [((some gx, 28, [.pointer (some ⟨(mv s.m q1).gv, 0, none⟩)]) : Ent), ((some g9, 3, [.int .i64 (((nn + W3.recs.length : Nat) : Int) : Int)]) : Ent)])) ++ [((g12, 34, ys ++ sp) : Ent)]) := (HB.all HJ0).call0 Hc
          have hlA : Live w12 (⟨mv s.m q1, D3, W3, s.k, ({ s.K with first := nn } : Bk)⟩ : Sx) (([((some g4, 4, [.bool false]) : Ent), (some g5, 24, [.pointer (some ⟨gb, 0, none⟩)])] ++ [((some gx, 28, [.pointer (some ⟨(mv s.m q1).gv, 0, none⟩)]) : Ent), ((some g9, 3, [.int .i64 (((nn + W3.recs.length : Nat) : Int) : Int)]) : Ent)]) ++ (recAll ys).map fun g => ((some g, 0, []) : Ent)) 1024 (i + 1) := { hlD with ok := hlD.ok.keepF Hc (fun _ hb => by cases hb) (fun x hx => by
            rw [bl_append] at hx
            rcases List.mem_append.1 hx with h1 | h1
            · exact .inl (by rw [bl_append]; exact List.mem_append.2 (.inr h1))
            · obtain ⟨ee, he1, he2⟩ := List.mem_filterMap.1 h1
              obtain ⟨g, hg1, rfl⟩ := List.mem_map.1 he1
              simp only [Option.some.injEq] at he2
              subst he2
              exact .inr (hzc _ hg1).2) }
          have hw1s := HB.size
          obtain ⟨wA, hwA⟩ : ∃ x, x = w12 := ⟨_, rfl⟩
          rw [← hwA] at hoz hlA HBA hown hzc hDm ⊢
          have H12 : Hp wA wA (recAll ys) [] := (Hp.refl wA).wide (fun _ hx => by cases hx)
          refine ops_val (ex_assign rfl) ?_
          refine ops_nil ?_
          change Run _ _ _ _ [_, _, _, _, _, _, _, _, _, _, _, _, _, _, _, _, _, _, _, _, _, _, _, _, _, _, _, _, _, _, _, _, _, _, _, _, _, _, _, _, _, _, _, _, _, _, _, _, _, _, _, _, _, _, _, _, _, _, _, _, _, _, _, _, _, _, _, _, _, _, _, _, _, _, _, _, _, _, _, _, _, _, _, _, _, _, _, _, _, _, _, _, _, _, _, _, _, _, _, _, _, _, _, _, _, _, _, _, _, _, _, _, _, _, _, _, _, _, _, _, _, _, _, _, _, _, _, _, _, _, _, _, _, _, _, _, _, _, _, _, _, _, _, _, _, _, _, _, _, _, _, _, _, _, _, _, _, _, _, _, _, _, _, _, _, _, _, _, _, _, _, _, _, _, _, _, _, _, _, _, _, _, _, _, _, _, _] _
          refine run_seq ?_
          refine run_seq ?_
          refine run_region rfl (fun _ _ h => h) ?_
          refine ops_val (ex_assign rfl) ?_
          refine ops_nil ?_
          change Run _ _ _ _ [_, _, _, _, _, _, _, _, _, _, _, _, _, _, _, _, _, _, _, _, _, _, _, _, _, _, _, _, _, _, _, _, _, _, _, _, _, _, _, _, _, _, _, _, _, _, _, _, _, _, _, _, _, _, _, _, _, _, _, _, _, _, _, _, _, _, _, _, _, _, _, _, _, _, _, _, _, _, _, _, _, _, _, _, _, _, _, _, _, _, _, _, _, _, _, _, _, _, _, _, _, _, _, _, _, _, _, _, _, _, _, _, _, _, _, _, _, _, _, _, _, _, _, _, _, _, _, _, _, _, _, _, _, _, _, _, _, _, _, _, _, _, _, _, _, _, _, _, _, _, _, _, _, _, _, _, _, _, _, _, _, _, _, _, _, _, _, _, _, _, _, _, _, _, _, _, _, _, _, _, _, _, _, _, _, _, _] _
          refine run_block ?_
          refine run_loop (fun n l w => ∃ (i5 : Nat) (y5 : Int), W3.recs.length - i5 = n ∧ Fits [none, none, none, none, some (.pointer (some ⟨g4, 0, none⟩)), some (.pointer (some ⟨g5, 0, none⟩)), none, some (.int .i64 (nn : Int)), none, some (.pointer (some ⟨g9, 0, none⟩)), none, none, none, some (.slice (hd g12) W3.recs.length cap), some (.int .i64 y5), none, none, none, none, none, none, none, none, none, none, none, none, none, none, none, none, none, none, none, none, none, none, none, none, none, none, none, none, none, none, none, none, none, none, none, none, none, none, none, none, none, none, none, none, none, none, none, none, none, none, none, none, none, none, none, none, none, none, none, none, none, none, none, none, none, none, none, none, none, none, none, none, none, none, none, none, none, none, none, none, none, none, none, none, none, none, none, none, none, none, none, none, none, none, none, none, none, none, none, none, none, none, none, none, none, none, none, none, none, none, none, none, none, none, none, none, none, none, none, none, none, none, none, none, none, none, none, none, none, none, none, none, none, none, none, none, none, none, none, none, none, none, none, none, none, none, none, none, none, none, none, none, none, none, none, none, none, none, none, none, none, none, none, none, none, none, none, none, none, none, none, none] l ∧ y5 = (i5 : Int) ∧ i5 ≤ W3.recs.length ∧ Ownz w ys W3.recs (recAll ys) ∧ Hp wA w (recAll ys) []) (W3.recs.length) ?_ ?_
          · exact ⟨0, _, rfl, (fn (fn (fn (fn (fs (fs (fn (fs (fn (fs (fn (fn (fn (fs (fs (fn (fn (fn (fn (fn (fn (fn (fn (fn (fn (fn (fn (fn (fn (fn (fn (fn (fn (fn (fn (fn (fn (fn (fn (fn (fn (fn (fn (fn (fn (fn (fn (fn (fn (fn (fn (fn (fn (fn (fn (fn (fn (fn (fn (fn (fn (fn (fn (fn (fn (fn (fn (fn (fn (fn (fn (fn (fn (fn (fn (fn (fn (fn (fn (fn (fn (fn (fn (fn (fn (fn (fn (fn (fn (fn (fn (fn (fn (fn (fn (fn (fn (fn (fn (fn (fn (fn (fn (fn (fn (fn (fn (fn (fn (fn (fn (fn (fn (fn (fn (fn (fn (fn (fn (fn (fn (fn (fn (fn (fn (fn (fn (fn (fn (fn (fn (fn (fn (fn (fn (fn (fn (fn (fn (fn (fn (fn (fn (fn (fn (fn (fn (fn (fn (fn (fn (fn (fn (fn (fn (fn (fn (fn (fn (fn (fn (fn (fn (fn (fn (fn (fn (fn (fn (fn (fn (fn (fn (fn (fn (fn (fn (fn (fn (fn (fn (fn (fn (fn (fn (fn (fn f0))))))))))))))))))))))))))))))))))))))))))))))))))))))))))))))))))))))))))))))))))))))))))))))))))))))))))))))))))))))))))))))))))))))))))))))))))))))))))))))))))))))))))))))))))))))))))), rfl, Nat.zero_le _, hoz, H12⟩
          · rintro n l w13 ⟨i5, y5, rfl, hfit, rfl, hi5, hoz, H13⟩
            obtain ⟨j, rfl⟩ := hfit.open
            change Run _ _ _ _ [_, _, _, _, _, _, _, _, _, _, _, _, _, _, _, _, _, _, _, _, _, _, _, _, _, _, _, _, _, _, _, _, _, _, _, _, _, _, _, _, _, _, _, _, _, _, _, _, _, _, _, _, _, _, _, _, _, _, _, _, _, _, _, _, _, _, _, _, _, _, _, _, _, _, _, _, _, _, _, _, _, _, _, _, _, _, _, _, _, _, _, _, _, _, _, _, _, _, _, _, _, _, _, _, _, _, _, _, _, _, _, _, _, _, _, _, _, _, _, _, _, _, _, _, _, _, _, _, _, _, _, _, _, _, _, _, _, _, _, _, _, _, _, _, _, _, _, _, _, _, _, _, _, _, _, _, _, _, _, _, _, _, _, _, _, _, _, _, _, _, _, _, _, _, _, _, _, _, _, _, _, _, _, _, _, _, _] _
            clear hfit
            refine run_seq ?_
            refine run_seq ?_
            refine run_region rfl (fun _ _ h => h) ?_
            refine ops_val (ex_move rfl) ?_
            refine ops_val (ex_move rfl) ?_
            refine ops_val (ex_len_slice Try.underlying29 rfl) ?_
            refine ops_test (ex_lss rfl rfl) (fun hp125 => ?_) (fun hp125 => ?_)
            · have hi5l : i5 < W3.recs.length := by omega
              obtain ⟨ge, ce, hye, hyn, _⟩ := hoz.own i5 hi5l
              obtain ⟨gr, rfl⟩ := own_some HBA (i := 12) rfl (by omega)
              refine ops_nil ?_
              change Run _ _ _ _ [_, _, _, _, _, _, _, _, _, _, _, _, _, _, _, _, _, _, _, _, _, _, _, _, _, _, _, _, _, _, _, _, _, _, _, _, _, _, _, _, _, _, _, _, _, _, _, _, _, _, _, _, _, _, _, _, _, _, _, _, _, _, _, _, _, _, _, _, _, _, _, _, _, _, _, _, _, _, _, _, _, _, _, _, _, _, _, _, _, _, _, _, _, _, _, _, _, _, _, _, _, _, _, _, _, _, _, _, _, _, _, _, _, _, _, _, _, _, _, _, _, _, _, _, _, _, _, _, _, _, _, _, _, _, _, _, _, _, _, _, _, _, _, _, _, _, _, _, _, _, _, _, _, _, _, _, _, _, _, _, _, _, _, _, _, _, _, _, _, _, _, _, _, _, _, _, _, _, _, _, _, _, _, _, _, _, _] _
              refine run_cond_true rfl ?_
              refine run_skip ?_
              refine run_seq ?_
              refine run_block ?_
              refine run_seq ?_
              refine run_region rfl (fun _ _ h => h) ?_
              refine ops_val (ex_assign rfl) ?_
              refine ops_nil ?_
              change Run _ _ _ _ [_, _, _, _, _, _, _, _, _, _, _, _, _, _, _, _, _, _, _, _, _, _, _, _, _, _, _, _, _, _, _, _, _, _, _, _, _, _, _, _, _, _, _, _, _, _, _, _, _, _, _, _, _, _, _, _, _, _, _, _, _, _, _, _, _, _, _, _, _, _, _, _, _, _, _, _, _, _, _, _, _, _, _, _, _, _, _, _, _, _, _, _, _, _, _, _, _, _, _, _, _, _, _, _, _, _, _, _, _, _, _, _, _, _, _, _, _, _, _, _, _, _, _, _, _, _, _, _, _, _, _, _, _, _, _, _, _, _, _, _, _, _, _, _, _, _, _, _, _, _, _, _, _, _, _, _, _, _, _, _, _, _, _, _, _, _, _, _, _, _, _, _, _, _, _, _, _, _, _, _, _, _, _, _, _, _, _] _
              refine run_block ?_
              refine run_loop (fun n l w => ∃ (i6 : Nat) (y6 : Int), W3.recs[i5].length - i6 = n ∧ Fits [none, none, none, none, some (.pointer (some ⟨g4, 0, none⟩)), some (.pointer (some ⟨g5, 0, none⟩)), none, some (.int .i64 (nn : Int)), none, some (.pointer (some ⟨g9, 0, none⟩)), none, none, none, some (.slice (hd (some gr)) W3.recs.length cap), some (.int .i64 (i5 : Int)), some (.int .i64 y6), none, none, none, none, none, none, none, none, none, none, none, none, none, none, none, none, none, none, none, none, none, none, none, none, none, none, none, none, none, none, none, none, none, none, none, none, none, none, none, none, none, none, none, none, none, none, none, none, none, none, none, none, none, none, none, none, none, none, none, none, none, none, none, none, none, none, none, none, none, none, none, none, none, none, none, none, none, none, none, none, none, none, none, none, none, none, none, none, none, none, none, none, none, none, none, none, none, none, none, none, none, none, none, none, none, none, none, none, none, none, none, none, none, none, none, none, none, none, none, none, none, none, none, none, none, none, none, none, none, none, none, none, none, none, none, none, none, none, none, none, none, none, none, none, none, none, none, none, none, none, none, none, none, none, none, none, none, none, none, none, none, none, none, none, none, none, none, none, none, none, none] l ∧ y6 = (i6 : Int) ∧ i6 ≤ W3.recs[i5].length ∧ Ownz w ys W3.recs (recAll ys) ∧ Hp wA w (recAll ys) []) (W3.recs[i5].length) ?_ ?_
              · exact ⟨0, _, rfl, (fn (fn (fn (fn (fs (fs (fn (fs (fn (fs (fn (fn (fn (fs (fs (fs (fn (fn (fn (fn (fn (fn (fn (fn (fn (fn (fn (fn (fn (fn (fn (fn (fn (fn (fn (fn (fn (fn (fn (fn (fn (fn (fn (fn (fn (fn (fn (fn (fn (fn (fn (fn (fn (fn (fn (fn (fn (fn (fn (fn (fn (fn (fn (fn (fn (fn (fn (fn (fn (fn (fn (fn (fn (fn (fn (fn (fn (fn (fn (fn (fn (fn (fn (fn (fn (fn (fn (fn (fn (fn (fn (fn (fn (fn (fn (fn (fn (fn (fn (fn (fn (fn (fn (fn (fn (fn (fn (fn (fn (fn (fn (fn (fn (fn (fn (fn (fn (fn (fn (fn (fn (fn (fn (fn (fn (fn (fn (fn (fn (fn (fn (fn (fn (fn (fn (fn (fn (fn (fn (fn (fn (fn (fn (fn (fn (fn (fn (fn (fn (fn (fn (fn (fn (fn (fn (fn (fn (fn (fn (fn (fn (fn (fn (fn (fn (fn (fn (fn (fn (fn (fn (fn (fn (fn (fn (fn (fn (fn (fn (fn (fn (fn (fn (fn (fn (fn (fn f0))))))))))))))))))))))))))))))))))))))))))))))))))))))))))))))))))))))))))))))))))))))))))))))))))))))))))))))))))))))))))))))))))))))))))))))))))))))))))))))))))))))))))))))))))))))))))), rfl, Nat.zero_le _, hoz, H13⟩
              · rintro n l w14 ⟨i6, y6, rfl, hfit, rfl, hi6, hoz, H14⟩
                obtain ⟨j, rfl⟩ := hfit.open
                change Run _ _ _ _ [_, _, _, _, _, _, _, _, _, _, _, _, _, _, _, _, _, _, _, _, _, _, _, _, _, _, _, _, _, _, _, _, _, _, _, _, _, _, _, _, _, _, _, _, _, _, _, _, _, _, _, _, _, _, _, _, _, _, _, _, _, _, _, _, _, _, _, _, _, _, _, _, _, _, _, _, _, _, _, _, _, _, _, _, _, _, _, _, _, _, _, _, _, _, _, _, _, _, _, _, _, _, _, _, _, _, _, _, _, _, _, _, _, _, _, _, _, _, _, _, _, _, _, _, _, _, _, _, _, _, _, _, _, _, _, _, _, _, _, _, _, _, _, _, _, _, _, _, _, _, _, _, _, _, _, _, _, _, _, _, _, _, _, _, _, _, _, _, _, _, _, _, _, _, _, _, _, _, _, _, _, _, _, _, _, _, _] _
                clear hfit
                refine run_seq ?_
                refine run_seq ?_
                refine run_region rfl (fun _ _ h => h) ?_
                refine ops_val (ex_move rfl) ?_
                refine ops_val (ex_move rfl) ?_
                refine ops_val (ex_move rfl) ?_
                refine ops_val (ex_idx Try.underlying29 ty34 rfl rfl rfl hi5l (Nat.mul_one _)) ?_
                refine nO187 ?_
                refine ops_val (ex_load ty34 rfl ((Rd.to (HBA.rd (i := 12) (o := some gr) (xs := ys) (sp := sp) rfl (by rw [hown.len, Nat.mul_one]) (by decide)) H14 (fun p hp hx => by simp only [hd, Option.map_some, Option.some.injEq] at hp; subst hp; exact hsep _ hx (by simp [bl]))).cells _ rfl i5 _ hye)) ?_
                refine ops_val (ex_len_slice Try.underlying34 rfl) ?_
                refine ops_test (ex_lss rfl rfl) (fun hp134 => ?_) (fun hp134 => ?_)
                · have hi6l : i6 < W3.recs[i5].length := by omega
                  have hrl := hlA.ok.ok.long _ (List.getElem_mem hi5l)
                  obtain ⟨ge2, ce2, hye2, hyn2, hy2⟩ := hoz.own i5 hi5l
                  obtain ⟨rfl, rfl⟩ : ge2 = ge ∧ ce2 = ce := by
                    rw [hye] at hye2
                    simp only [Option.some.injEq, Value.slice.injEq, true_and] at hye2
                    obtain ⟨h1, h2⟩ := hye2
                    refine ⟨?_, h2.symm⟩
                    cases ge <;> cases ge2 <;> simp_all [hd]
                  obtain ⟨gz, rfl⟩ : ∃ gz, ge2 = some gz := by
                    cases ge2 with
                    | none => have := hyn2 rfl; omega
                    | some gz => exact ⟨gz, rfl⟩
                  obtain ⟨hgzm, cz, hcz, hczl⟩ := hy2 gz rfl
                  refine ops_nil ?_
                  change Run _ _ _ _ [_, _, _, _, _, _, _, _, _, _, _, _, _, _, _, _, _, _, _, _, _, _, _, _, _, _, _, _, _, _, _, _, _, _, _, _, _, _, _, _, _, _, _, _, _, _, _, _, _, _, _, _, _, _, _, _, _, _, _, _, _, _, _, _, _, _, _, _, _, _, _, _, _, _, _, _, _, _, _, _, _, _, _, _, _, _, _, _, _, _, _, _, _, _, _, _, _, _, _, _, _, _, _, _, _, _, _, _, _, _, _, _, _, _, _, _, _, _, _, _, _, _, _, _, _, _, _, _, _, _, _, _, _, _, _, _, _, _, _, _, _, _, _, _, _, _, _, _, _, _, _, _, _, _, _, _, _, _, _, _, _, _, _, _, _, _, _, _, _, _, _, _, _, _, _, _, _, _, _, _, _, _, _, _, _, _, _] _
                  refine run_cond_true rfl ?_
                  refine run_skip ?_
                  refine run_seq ?_
                  refine run_block ?_
                  refine run_region rfl (fun _ _ h => h) ?_
                  refine ops_val (ex_move rfl) ?_
                  refine ops_val (ex_move rfl) ?_
                  refine ops_val (ex_idx Try.underlying29 ty34 rfl rfl rfl hi5l (Nat.mul_one _)) ?_
                  refine ops_val (ex_load ty34 rfl ((Rd.to (HBA.rd (i := 12) (o := some gr) (xs := ys) (sp := sp) rfl (by rw [hown.len, Nat.mul_one]) (by decide)) H14 (fun p hp hx => by simp only [hd, Option.map_some, Option.some.injEq] at hp; subst hp; exact hsep _ hx (by simp [bl]))).cells _ rfl i5 _ hye)) ?_
                  refine nO187 ?_
                  refine ops_val (ex_move rfl) ?_
                  refine ops_val (ex_idx Try.underlying34 ty5 rfl rfl rfl hi6l (Nat.mul_one _)) ?_
                  rw [addz gz]
                  refine ops_store1 ty5 (Hp.old hcz) 0 rfl rfl rfl rfl (by omega) rfl ?_
                  intro w15 Hst
                  replace hoz := hoz.store hcz rfl Hst (by rw [List.length_set])
                  have H15 := H14.past Hst.noRows (fun b hb => .inl (by rw [List.mem_singleton.1 hb]; exact hgzm)) (fun _ hb => by cases hb)
                  refine ops_nil ?_
                  change Run _ _ _ _ [_, _, _, _, _, _, _, _, _, _, _, _, _, _, _, _, _, _, _, _, _, _, _, _, _, _, _, _, _, _, _, _, _, _, _, _, _, _, _, _, _, _, _, _, _, _, _, _, _, _, _, _, _, _, _, _, _, _, _, _, _, _, _, _, _, _, _, _, _, _, _, _, _, _, _, _, _, _, _, _, _, _, _, _, _, _, _, _, _, _, _, _, _, _, _, _, _, _, _, _, _, _, _, _, _, _, _, _, _, _, _, _, _, _, _, _, _, _, _, _, _, _, _, _, _, _, _, _, _, _, _, _, _, _, _, _, _, _, _, _, _, _, _, _, _, _, _, _, _, _, _, _, _, _, _, _, _, _, _, _, _, _, _, _, _, _, _, _, _, _, _, _, _, _, _, _, _, _, _, _, _, _, _, _, _, _, _] _
                  refine run_nil (blk_normal ?_)
                  refine run_region rfl (fun _ _ h => h) ?_
                  refine ops_val (ex_move rfl) ?_
                  refine ops_val (ex_add rfl rfl (IntWalk.i64_in _ (by omega))) ?_
                  refine ops_val (ex_assign rfl) ?_
                  refine ops_nil ?_
                  change Run _ _ _ _ [_, _, _, _, _, _, _, _, _, _, _, _, _, _, _, _, _, _, _, _, _, _, _, _, _, _, _, _, _, _, _, _, _, _, _, _, _, _, _, _, _, _, _, _, _, _, _, _, _, _, _, _, _, _, _, _, _, _, _, _, _, _, _, _, _, _, _, _, _, _, _, _, _, _, _, _, _, _, _, _, _, _, _, _, _, _, _, _, _, _, _, _, _, _, _, _, _, _, _, _, _, _, _, _, _, _, _, _, _, _, _, _, _, _, _, _, _, _, _, _, _, _, _, _, _, _, _, _, _, _, _, _, _, _, _, _, _, _, _, _, _, _, _, _, _, _, _, _, _, _, _, _, _, _, _, _, _, _, _, _, _, _, _, _, _, _, _, _, _, _, _, _, _, _, _, _, _, _, _, _, _, _, _, _, _, _, _] _
                  refine run_nil (rnd_normal ?_)
                  refine ⟨rfl, ?_⟩
                  exact ⟨W3.recs[i5].length - (i6 + 1), by omega, i6 + 1, _, rfl, (fn (fn (fn (fn (fs (fs (fn (fs (fn (fs (fn (fn (fn (fs (fs (fs (fn (fn (fn (fn (fn (fn (fn (fn (fn (fn (fn (fn (fn (fn (fn (fn (fn (fn (fn (fn (fn (fn (fn (fn (fn (fn (fn (fn (fn (fn (fn (fn (fn (fn (fn (fn (fn (fn (fn (fn (fn (fn (fn (fn (fn (fn (fn (fn (fn (fn (fn (fn (fn (fn (fn (fn (fn (fn (fn (fn (fn (fn (fn (fn (fn (fn (fn (fn (fn (fn (fn (fn (fn (fn (fn (fn (fn (fn (fn (fn (fn (fn (fn (fn (fn (fn (fn (fn (fn (fn (fn (fn (fn (fn (fn (fn (fn (fn (fn (fn (fn (fn (fn (fn (fn (fn (fn (fn (fn (fn (fn (fn (fn (fn (fn (fn (fn (fn (fn (fn (fn (fn (fn (fn (fn (fn (fn (fn (fn (fn (fn (fn (fn (fn (fn (fn (fn (fn (fn (fn (fn (fn (fn (fn (fn (fn (fn (fn (fn (fn (fn (fn (fn (fn (fn (fn (fn (fn (fn (fn (fn (fn (fn (fn (fn (fn (fn (fn (fn (fn (fn f0))))))))))))))))))))))))))))))))))))))))))))))))))))))))))))))))))))))))))))))))))))))))))))))))))))))))))))))))))))))))))))))))))))))))))))))))))))))))))))))))))))))))))))))))))))))))))), by omega, by omega, hoz, H15⟩
                · skip
                  refine ops_nil ?_
                  change Run _ _ _ _ [_, _, _, _, _, _, _, _, _, _, _, _, _, _, _, _, _, _, _, _, _, _, _, _, _, _, _, _, _, _, _, _, _, _, _, _, _, _, _, _, _, _, _, _, _, _, _, _, _, _, _, _, _, _, _, _, _, _, _, _, _, _, _, _, _, _, _, _, _, _, _, _, _, _, _, _, _, _, _, _, _, _, _, _, _, _, _, _, _, _, _, _, _, _, _, _, _, _, _, _, _, _, _, _, _, _, _, _, _, _, _, _, _, _, _, _, _, _, _, _, _, _, _, _, _, _, _, _, _, _, _, _, _, _, _, _, _, _, _, _, _, _, _, _, _, _, _, _, _, _, _, _, _, _, _, _, _, _, _, _, _, _, _, _, _, _, _, _, _, _, _, _, _, _, _, _, _, _, _, _, _, _, _, _, _, _, _] _
                  refine run_cond_false rfl ?_
                  refine run_exit ?_
                  refine rnd_exit ?_
                  refine blk_exit ?_
                  refine run_nil (blk_normal ?_)
                  refine run_region rfl (fun _ _ h => h) ?_
                  refine ops_val (ex_move rfl) ?_
                  refine ops_val (ex_add rfl rfl (IntWalk.i64_in _ (by omega))) ?_
                  refine ops_val (ex_assign rfl) ?_
                  refine ops_nil ?_
                  change Run _ _ _ _ [_, _, _, _, _, _, _, _, _, _, _, _, _, _, _, _, _, _, _, _, _, _, _, _, _, _, _, _, _, _, _, _, _, _, _, _, _, _, _, _, _, _, _, _, _, _, _, _, _, _, _, _, _, _, _, _, _, _, _, _, _, _, _, _, _, _, _, _, _, _, _, _, _, _, _, _, _, _, _, _, _, _, _, _, _, _, _, _, _, _, _, _, _, _, _, _, _, _, _, _, _, _, _, _, _, _, _, _, _, _, _, _, _, _, _, _, _, _, _, _, _, _, _, _, _, _, _, _, _, _, _, _, _, _, _, _, _, _, _, _, _, _, _, _, _, _, _, _, _, _, _, _, _, _, _, _, _, _, _, _, _, _, _, _, _, _, _, _, _, _, _, _, _, _, _, _, _, _, _, _, _, _, _, _, _, _, _] _
                  refine run_nil (rnd_normal ?_)
                  refine ⟨rfl, ?_⟩
                  exact ⟨W3.recs.length - (i5 + 1), by omega, i5 + 1, _, rfl, (fn (fn (fn (fn (fs (fs (fn (fs (fn (fs (fn (fn (fn (fs (fs (fn (fn (fn (fn (fn (fn (fn (fn (fn (fn (fn (fn (fn (fn (fn (fn (fn (fn (fn (fn (fn (fn (fn (fn (fn (fn (fn (fn (fn (fn (fn (fn (fn (fn (fn (fn (fn (fn (fn (fn (fn (fn (fn (fn (fn (fn (fn (fn (fn (fn (fn (fn (fn (fn (fn (fn (fn (fn (fn (fn (fn (fn (fn (fn (fn (fn (fn (fn (fn (fn (fn (fn (fn (fn (fn (fn (fn (fn (fn (fn (fn (fn (fn (fn (fn (fn (fn (fn (fn (fn (fn (fn (fn (fn (fn (fn (fn (fn (fn (fn (fn (fn (fn (fn (fn (fn (fn (fn (fn (fn (fn (fn (fn (fn (fn (fn (fn (fn (fn (fn (fn (fn (fn (fn (fn (fn (fn (fn (fn (fn (fn (fn (fn (fn (fn (fn (fn (fn (fn (fn (fn (fn (fn (fn (fn (fn (fn (fn (fn (fn (fn (fn (fn (fn (fn (fn (fn (fn (fn (fn (fn (fn (fn (fn (fn (fn (fn (fn (fn (fn (fn (fn f0))))))))))))))))))))))))))))))))))))))))))))))))))))))))))))))))))))))))))))))))))))))))))))))))))))))))))))))))))))))))))))))))))))))))))))))))))))))))))))))))))))))))))))))))))))))))))), by omega, by omega, hoz, H14⟩
            · skip
              refine ops_nil ?_
              change Run _ _ _ _ [_, _, _, _, _, _, _, _, _, _, _, _, _, _, _, _, _, _, _, _, _, _, _, _, _, _, _, _, _, _, _, _, _, _, _, _, _, _, _, _, _, _, _, _, _, _, _, _, _, _, _, _, _, _, _, _, _, _, _, _, _, _, _, _, _, _, _, _, _, _, _, _, _, _, _, _, _, _, _, _, _, _, _, _, _, _, _, _, _, _, _, _, _, _, _, _, _, _, _, _, _, _, _, _, _, _, _, _, _, _, _, _, _, _, _, _, _, _, _, _, _, _, _, _, _, _, _, _, _, _, _, _, _, _, _, _, _, _, _, _, _, _, _, _, _, _, _, _, _, _, _, _, _, _, _, _, _, _, _, _, _, _, _, _, _, _, _, _, _, _, _, _, _, _, _, _, _, _, _, _, _, _, _, _, _, _, _] _
              refine run_cond_false rfl ?_
              refine run_exit ?_
              refine rnd_exit ?_
              refine blk_exit ?_
              refine run_seq ?_
              refine run_region rfl (fun _ _ h => h) ?_
              have HB : Hp w0 w13 [] ((⟨mv s.m q1, D3, W3, s.k, ({ s.K with first := nn } : Bk)⟩ : Sx).rows ++ ([((some g4, 4, [.bool false]) : Ent), (some g5, 24, [.pointer (some ⟨gb, 0, none⟩)])] ++ [((some gx, 28, [.pointer (some ⟨(mv s.m q1).gv, 0, none⟩)]) : Ent), ((some g9, 3, [.int .i64 (((nn + W3.recs.length : Nat) : Int) : Int)]) : Ent)])) := HBA.less.past H13 (fun b hb => .inr (by have := (hzc b hb).2; omega)) (fun x hx hx2 => by
                have h1 := lt_here HD0 x hx
                have h2 := (hzc x hx2).2
                omega)
              replace hDm := keepD hDm H13 (fun x hx => (hzc x hx).1)
              have hlE : Live w13 (⟨mv s.m q1, D3, W3, s.k, ({ s.K with first := nn } : Bk)⟩ : Sx) ([((some g4, 4, [.bool false]) : Ent), (some g5, 24, [.pointer (some ⟨gb, 0, none⟩)])] ++ [((some gx, 28, [.pointer (some ⟨(mv s.m q1).gv, 0, none⟩)]) : Ent), ((some g9, 3, [.int .i64 (((nn + W3.recs.length : Nat) : Int) : Int)]) : Ent)]) 1024 (i + 1) := Live.lessF (G := (recAll ys).map fun g => ((some g, 0, []) : Ent)) { hlA with ok := hlA.ok.keep H13 (fun x hx => bl_inr (bl_inr (List.mem_filterMap.2 ⟨_, List.mem_map.2 ⟨x, hx, rfl⟩, rfl⟩))) }
              replace H13 := HB.here
              refine ops_val (v := .pointer (some ⟨s.k.gb, 0, none⟩)) (ex_load ty24 rfl (by rw [hgb]; exact H13.cell (i := 9) (o := 0) rfl rfl)) ?_
              refine ops_val (ex_nilCheck rfl) ?_
              refine ops_val (ex_fieldAddr fl31_0 rfl) ?_
              refine ops_val (ex_load ty27 rfl (H13.cell (i := 6) rfl rfl)) ?_
              refine nO187 ?_
              have hw3 : D3.wait.length ≤ 300 * (i + 1) := hlE.wait
              refine ops_call (ex_call gf22 rfl) (fork_any (mv s.m q1).gd (mv s.m q1).gk (mv s.m q1).gw (mv s.m q1).cw (mv s.m q1).sp D3 _ HB.less.less.less.here hlE.ok.ok.d (by omega)) ?_
              rintro r w14 ⟨gf, gq, gv, cv, sv, Df, hr, f1, f2, f3, f4, f5, Hd⟩
              rw [hr]
              have HF : Hp w0 w14 [] (((⟨mv s.m q1, D3, W3, s.k, ({ s.K with first := nn } : Bk)⟩ : Sx).rows ++ ([((some g4, 4, [.bool false]) : Ent), (some g5, 24, [.pointer (some ⟨gb, 0, none⟩)])] ++ [((some gx, 28, [.pointer (some ⟨(mv s.m q1).gv, 0, none⟩)]) : Ent), ((some g9, 3, [.int .i64 (((nn + W3.recs.length : Nat) : Int) : Int)]) : Ent)])) ++ dRows gf gq gv cv sv Df) := (HB.callr [0, 1, 2] rfl Hd).pick [12, 13, 14, 3, 4, 5, 6, 7, 8, 9, 10, 11, 15, 16, 17] (by decide)
              have hsubD : ∀ x ∈ bl (dRows (mv s.m q1).gd (mv s.m q1).gk (mv s.m q1).gw (mv s.m q1).cw (mv s.m q1).sp D3), x ∈ bl ((⟨mv s.m q1, D3, W3, s.k, ({ s.K with first := nn } : Bk)⟩ : Sx).rows ++ ([((some g4, 4, [.bool false]) : Ent), (some g5, 24, [.pointer (some ⟨gb, 0, none⟩)])] ++ [((some gx, 28, [.pointer (some ⟨(mv s.m q1).gv, 0, none⟩)]) : Ent), ((some g9, 3, [.int .i64 (((nn + W3.recs.length : Nat) : Int) : Int)]) : Ent)])) := fun x hx => by
                obtain ⟨ee, he1, he2⟩ := List.mem_filterMap.1 hx
                exact List.mem_filterMap.2 ⟨ee, List.mem_append.2 (.inl (List.mem_append.2 (.inl (List.mem_append.2 (.inl he1))))), he2⟩
              have hlK : Live w14 (⟨mv s.m q1, D3, W3, s.k, ({ s.K with first := nn } : Bk)⟩ : Sx) (([((some g4, 4, [.bool false]) : Ent), (some g5, 24, [.pointer (some ⟨gb, 0, none⟩)])] ++ [((some gx, 28, [.pointer (some ⟨(mv s.m q1).gv, 0, none⟩)]) : Ent), ((some g9, 3, [.int .i64 (((nn + W3.recs.length : Nat) : Int) : Int)]) : Ent)]) ++ dRows gf gq gv cv sv Df) 1024 (i + 1) := { hlE with ok := hlE.ok.keepF Hd hsubD (fun x hx => by
                rw [bl_append] at hx
                rcases List.mem_append.1 hx with h1 | h1
                · exact .inl (by rw [bl_append]; exact List.mem_append.2 (.inr h1))
                · rcases bl_place Hd x (by rw [bl_append]; exact List.mem_append.2 (.inr h1)) with h2 | h2
                  · exact .inl (hsubD x h2)
                  · exact .inr h2) }
              replace hDm := keepD hDm Hd (fun x hx => bl_cells HB x (hsubD x hx))
              have H14 := HF.here
              obtain ⟨sp0, hlg⟩ := hlE.lg
              have hlgf : Lg Df.show Df.kept.length W3 sp0 := by
                have e1 : Df.show = D3.show := funext fun i => by unfold Dk.show; rw [f1, f2]
                rw [e1, f1]; exact hlg
              have hup3 : D3.down = false := hlE.up
              have htu3 : W3.turn ≤ i + 1 := hlE.turn
              refine ops_call (ex_call gf18 rfl) (openLg_any gf gq gv cv sv Df _ (H14.pick [12, 13, 14] (by decide)).here f5 (by rw [f3]; exact hup3) (by rw [f2]; omega) W3 sp0 hlgf htd3 (by omega) (by omega)) ?_
              rintro r w15 ⟨m9, W9, hr, hok9, Hc, hrc9, hfs9⟩
              rw [hr]
              have HO : Hp w0 w15 [] (((⟨mv s.m q1, D3, W3, s.k, ({ s.K with first := nn } : Bk)⟩ : Sx).rows ++ ([((some g4, 4, [.bool false]) : Ent), (some g5, 24, [.pointer (some ⟨gb, 0, none⟩)])] ++ [((some gx, 28, [.pointer (some ⟨(mv s.m q1).gv, 0, none⟩)]) : Ent), ((some g9, 3, [.int .i64 (((nn + W3.recs.length : Nat) : Int) : Int)]) : Ent)])) ++ wRows m9 Df W9) := (HF.callr [12, 13, 14] rfl Hc).pick [0, 1, 2, 3, 4, 5, 6, 7, 8, 9, 10, 11, 15, 16, 17, 18, 19, 20] (by decide)
              replace hlE : Live w15 (⟨mv s.m q1, D3, W3, s.k, ({ s.K with first := nn } : Bk)⟩ : Sx) ([((some g4, 4, [.bool false]) : Ent), (some g5, 24, [.pointer (some ⟨gb, 0, none⟩)])] ++ [((some gx, 28, [.pointer (some ⟨(mv s.m q1).gv, 0, none⟩)]) : Ent), ((some g9, 3, [.int .i64 (((nn + W3.recs.length : Nat) : Int) : Int)]) : Ent)]) 1024 (i + 1) := { hlK with ok := hlK.ok.keepF Hc (fun x hx => bl_inr (bl_inr hx)) (fun x hx => .inl (bl_inr (bl_inl hx))) }
              replace hDm := keepD hDm Hc (fun x hx => bl_cells HF x (by rw [bl_append]; exact List.mem_append.2 (.inr hx)))
              have H15 := HO.here
              refine ops_val (ex_move rfl) ?_
              refine ops_val (ex_extract rfl rfl) ?_
              refine nO187 ?_
              refine ops_val (ex_extract rfl rfl) ?_
              refine ops_val (ex_assign rfl) ?_
              refine ops_val (ex_assign rfl) ?_
              refine ops_nil ?_
              change Run _ _ _ _ [_, _, _, _, _, _, _, _, _, _, _, _, _, _, _, _, _, _, _, _, _, _, _, _, _, _, _, _, _, _, _, _, _, _, _, _, _, _, _, _, _, _, _, _, _, _, _, _, _, _, _, _, _, _, _, _, _, _, _, _, _, _, _, _, _, _, _, _, _, _, _, _, _, _, _, _, _, _, _, _, _, _, _, _, _, _, _, _, _, _, _, _, _, _, _, _, _, _, _, _, _, _, _, _, _, _, _, _, _, _, _, _, _, _, _, _, _, _, _, _, _, _, _, _, _, _, _, _, _, _, _, _, _, _, _, _, _, _, _, _, _, _, _, _, _, _, _, _, _, _, _, _, _, _, _, _, _, _, _, _, _, _, _, _, _, _, _, _, _, _, _, _, _, _, _, _, _, _, _, _, _, _, _, _, _, _, _] _
              refine run_seq ?_
              refine run_mixZ 35 [(true, 0), (true, 1), (true, 2), (true, 3), (true, 4), (true, 5), (true, 6), (true, 7), (false, 8), (true, 9), (true, 10), (true, 11), (true, 12), (true, 13), (true, 14), (true, 15), (true, 16), (true, 17), (true, 18), (true, 19), (true, 21), (false, 20), (true, 22), (true, 23), (true, 24), (true, 25), (true, 27), (true, 28), (true, 29), (true, 30), (true, 31), (true, 32), (false, 26), (false, 33), (true, 34), (false, 35)] H15 [6, 8, 9, 11] mixed (by decide) (by kernel_rfl) rfl ?_
              rintro w16 hw16
              have H16 := Hp.drew H15; rw [← hw16] at H16
              replace hok9 : WOk w16 m9 Df W9 := hok9.keep0 (es := []) (by rw [‹w16 = _›]; exact Hp.drewW _)
              replace hlE : Live w16 (⟨mv s.m q1, D3, W3, s.k, ({ s.K with first := nn } : Bk)⟩ : Sx) ([((some g4, 4, [.bool false]) : Ent), (some g5, 24, [.pointer (some ⟨gb, 0, none⟩)])] ++ [((some gx, 28, [.pointer (some ⟨(mv s.m q1).gv, 0, none⟩)]) : Ent), ((some g9, 3, [.int .i64 (((nn + W3.recs.length : Nat) : Int) : Int)]) : Ent)]) 1024 (i + 1) := hlE.keep0 (es := []) (by rw [‹w16 = _›]; exact Hp.drewW _)
              refine mixz_p rfl ?_
              refine mix1_val (fun wz hz => ex_load ty3 rfl (hz.cell (i := 3) rfl rfl)) ?_
              refine mixz_p rfl ?_
              refine mix1_val (v := .pointer (some ⟨s.k.gb, 0, none⟩)) (fun wz hz => ex_load ty24 rfl (by rw [hgb]; exact hz.cell (i := 2) (o := 0) rfl rfl)) ?_
              refine mixz_p rfl ?_
              refine mix1_val (fun wz hz => ex_nilCheck rfl) ?_
              refine mixz_p rfl ?_
              refine mix1_val (fun wz hz => ex_fieldAddr fl31_3 rfl) ?_
              refine nZ187 ?_
              refine mixz_p rfl ?_
              refine mix1_val (fun wz hz => ex_load ty3 rfl (hz.cell (i := 0) rfl rfl)) ?_
              refine mixz_p rfl ?_
              refine mix1_true (fun wz hz => ex_eql rfl rfl) (by show (((nn + W3.recs.length : Nat)) : Int) = (s.K.all.length : Int); omega) ?_
              refine mixz_p rfl ?_
              refine mix1_val (fun wz hz => ex_move rfl) ?_
              refine mixz_p rfl ?_
              refine mix1_yes rfl ?_
              refine mix1_val (v := .pointer (some ⟨s.k.gb, 0, none⟩)) (fun wz hz => ex_load ty24 rfl (by rw [hgb]; exact hz.cell (i := 2) (o := 0) rfl rfl)) ?_
              refine nZ187 ?_
              refine mixz_o rfl ?_
              refine ops_yes rfl ?_
              have HX := HO.all H16
              refine ops_call_val (ex_call gf12 rfl) (agree_any (mv s.m q1) D3 W3 s.k ({ s.K with first := nn } : Bk) _ HX.less.less.here hlE.ok.less hag2) ?_
              intro w17 Hd
              replace hok9 := hok9.keep0 Hd
              replace hlE := hlE.keep0 Hd
              have H17 := H16.callN Hd
              refine ops_nil ?_
              refine ⟨fun hne => H17.pick [6, 8, 9, 11] (by decide), ?_⟩
              refine nZ187 ?_
              refine mixz_p rfl ?_
              refine mix1_val (fun wz hz => ex_pick_t rfl rfl) ?_
              refine mixz_p rfl ?_
              refine mix1_val (fun wz hz => ex_move rfl) ?_
              refine mixz_p rfl ?_
              refine mix1_yes rfl ?_
              refine mix1_val (fun wz hz => ex_move rfl) ?_
              refine mixz_p rfl ?_
              refine mix1_yes rfl ?_
              refine mix1_true (fun wz hz => ex_eql rfl rfl) (by decide) ?_
              refine nZ187 ?_
              refine mixz_p rfl ?_
              refine mix1_val (fun wz hz => ex_pick_t rfl rfl) ?_
              refine mixz_p rfl ?_
              refine mix1_val (fun wz hz => ex_move rfl) ?_
              refine mixz_p rfl ?_
              refine mix1_yes rfl ?_
              refine mix1_val (fun wz hz => ex_move rfl) ?_
              refine mixz_p rfl ?_
              refine mix1_yes rfl ?_
              refine mix1_true (fun wz hz => ex_neq_nil_ptr Try.underlying28 rfl) (by simp) ?_
              refine nZ187 ?_
              refine mixz_p rfl ?_
              refine mix1_val (fun wz hz => ex_pick_t rfl rfl) ?_
              refine mixz_p rfl ?_
              refine mix1_val (fun wz hz => ex_move rfl) ?_
              refine mixz_p rfl ?_
              refine mix1_yes rfl ?_
              refine mix1_val (fun wz hz => ex_move rfl) ?_
              refine mixz_p rfl ?_
              refine mix1_yes rfl ?_
              refine mix1_val (fun wz hz => ex_move rfl) ?_
              refine nZ187 ?_
              refine mixz_o rfl ?_
              refine ops_yes rfl ?_
              refine ops_call_eq (ex_call gf19 rfl) (first_p m9.gv (W9.first : Int) _ (H17.cell (i := 15) rfl rfl)) ?_
              refine ops_nil ?_
              refine ⟨fun hne => H17.pick [6, 8, 9, 11] (by decide), ?_⟩
              refine nZ187 ?_
              refine mixz_p rfl ?_
              refine mix1_yes rfl ?_
              refine mix1_true (fun wz hz => ex_eql rfl rfl) (by omega) ?_
              refine mixz_p rfl ?_
              refine mix1_val (fun wz hz => ex_pick_t rfl rfl) ?_
              refine mixz_p rfl ?_
              refine mix1_val (fun wz hz => ex_move rfl) ?_
              refine mixz_p rfl ?_
              refine mix1_yes rfl ?_
              refine mix1_val (fun wz hz => ex_move rfl) ?_
              refine nZ187 ?_
              refine mixz_p rfl ?_
              refine mix1_yes rfl ?_
              refine mix1_val (v := .pointer (some ⟨s.k.gb, 0, none⟩)) (fun wz hz => ex_load ty24 rfl (by rw [hgb]; exact hz.cell (i := 2) (o := 0) rfl rfl)) ?_
              refine mixz_p rfl ?_
              refine mix1_yes rfl ?_
              refine mix1_val (fun wz hz => ex_nilCheck rfl) ?_
              refine mixz_p rfl ?_
              refine mix1_yes rfl ?_
              refine mix1_val (fun wz hz => ex_fieldAddr fl31_2 rfl) ?_
              refine mixz_p rfl ?_
              refine mix1_yes rfl ?_
              refine mix1_val (fun wz hz => ex_load ty29 rfl (hz.cell (i := 0) rfl rfl)) ?_
              refine nZ187 ?_
              refine mixz_p rfl ?_
              refine mix1_yes rfl ?_
              refine mix1_val (fun wz hz => ex_move rfl) ?_
              refine mixz_p rfl ?_
              refine mix1_yes rfl ?_
              refine mix1_val (fun wz hz => ex_cutLo Try.underlying29 ty34 rfl rfl (⟨by omega, by show (nn : Int) ≤ (s.K.all.length : Int); omega⟩)) ?_
              refine mixz_o rfl ?_
              refine ops_yes rfl ?_
              refine ops_call (ex_call gf17 rfl) ((Rn.records_any m9 Df W9 _ (H17.pick [12, 13, 14, 15, 16, 17] (by decide)).here hok9).d (fun _ _ hx => hx)) ?_
              rintro r w18 ⟨g18, cap9, ys9, sp9, hr, hcap9, hcs9, hgn9, hown9, hsep9, Hc⟩
              rw [hr]
              have hls9 := hown9.lsw
              replace hlE := hlE.keep0 Hc
              have H18 := H17.call0 Hc
              refine ops_nil ?_
              refine ⟨fun hne => H18.pick [6, 8, 9, 11] (by decide), ?_⟩
              refine nZ187 ?_
              refine mixz_o rfl ?_
              refine ops_yes rfl ?_
              have e9 : s.K.all.length - nn = W9.recs.length := by rw [hrc9]; omega
              have hcap5 : s.K.all.length ≤ s.k.ca := hlE.ok.cap
              have hY9 : Lsw w18 [] ((s.k.ys.drop nn).take (s.K.all.length - nn)) W9.recs := by
                have h1 : Lsw w18 [] s.k.ys s.K.all := hlE.ok.all.bare
                have h2 := (h1.drop nn).take (s.K.all.length - nn)
                have h3 : (s.K.all.drop nn).take (s.K.all.length - nn) = W9.recs := by rw [hrc9, hrcs, hf3, List.take_of_length_le (by rw [List.length_drop]; exact Nat.le_refl _)]
                rw [h3] at h2; exact h2
              have hB9 : Rd w18 (hd s.k.ga) s.K.all.length 1 s.k.ys := H18.rd (i := 7) (o := s.k.ga) (xs := s.k.ys) (sp := s.k.sa) rfl (by rw [Nat.mul_one]; exact hlE.ok.all.1) (by decide)
              refine ops_call_val (ex_call gf23 rfl) (lists_any2 (hd g18) (cutAddr (hd s.k.ga) nn s.k.ca 1) W9.recs cap9 (s.k.ca - nn) (s.K.all.length - nn) ys9 _ _ e9 (H18.rd (i := 18) (o := g18) (xs := ys9) (sp := sp9) rfl (by rw [hown9.len, Nat.mul_one]) (by decide)) (hB9.part (by omega) (Nat.le_refl _) hcap5) hls9 hY9 (by omega) (fun b hb => hok9.long b hb)) ?_
              intro w19 Hd
              have H19 := H18.callN Hd
              refine ops_nil ?_
              refine ⟨fun hne => H19.pick [6, 8, 9, 11] (by decide), ?_⟩
              refine nZ187 ?_
              refine mixz_p rfl ?_
              refine mix1_val (fun wz hz => ex_pick_t rfl rfl) ?_
              refine mixz_o rfl ?_
              refine ops_store1 ty4 H19 8 rfl rfl rfl rfl (by decide) rfl ?_
              intro w20 H20
              refine ops_nil ?_
              refine ⟨fun hne => absurd rfl hne, ?_⟩
              refine nZ187 ?_
              refine mixz_nil ?_
              change Run _ _ _ _ [_, _, _, _, _, _, _, _, _, _, _, _, _, _, _, _, _, _, _, _, _, _, _, _, _, _, _, _, _, _, _, _, _, _, _, _, _, _, _, _, _, _, _, _, _, _, _, _, _, _, _, _, _, _, _, _, _, _, _, _, _, _, _, _, _, _, _, _, _, _, _, _, _, _, _, _, _, _, _, _, _, _, _, _, _, _, _, _, _, _, _, _, _, _, _, _, _, _, _, _, _, _, _, _, _, _, _, _, _, _, _, _, _, _, _, _, _, _, _, _, _, _, _, _, _, _, _, _, _, _, _, _, _, _, _, _, _, _, _, _, _, _, _, _, _, _, _, _, _, _, _, _, _, _, _, _, _, _, _, _, _, _, _, _, _, _, _, _, _, _, _, _, _, _, _, _, _, _, _, _, _, _, _, _, _, _, _] _
              refine run_ret ?_
              have hDz := keepD hDm H20 (fun x hx => bl_cells HO x hx)
              have H8 := HO.all H20
              exact ⟨Dm, _, rfl, run_takeDeferred hDz, _, results_cell1 rfl ty4 rfl ((H8.loop (Hp.putO (.deferred none) hDz) (notc hDz) (by omega)).cell (i := 8) (o := 0) rfl rfl), rfl, (H8.loop (Hp.putO (.deferred none) hDz) (notc hDz) (by omega)).noRows⟩
    · skip
      refine ops_val (ex_move rfl) ?_
      refine nO187 ?_
      refine ops_no rfl ?_
      refine ops_no rfl ?_
      refine ops_val (ex_pick_f rfl rfl) ?_
      refine ops_nil ?_
      change Run _ _ _ _ [_, _, _, _, _, _, _, _, _, _, _, _, _, _, _, _, _, _, _, _, _, _, _, _, _, _, _, _, _, _, _, _, _, _, _, _, _, _, _, _, _, _, _, _, _, _, _, _, _, _, _, _, _, _, _, _, _, _, _, _, _, _, _, _, _, _, _, _, _, _, _, _, _, _, _, _, _, _, _, _, _, _, _, _, _, _, _, _, _, _, _, _, _, _, _, _, _, _, _, _, _, _, _, _, _, _, _, _, _, _, _, _, _, _, _, _, _, _, _, _, _, _, _, _, _, _, _, _, _, _, _, _, _, _, _, _, _, _, _, _, _, _, _, _, _, _, _, _, _, _, _, _, _, _, _, _, _, _, _, _, _, _, _, _, _, _, _, _, _, _, _, _, _, _, _, _, _, _, _, _, _, _, _, _, _, _, _] _
      refine run_cond_false rfl ?_
      refine run_exit ?_
      refine rnd_exit ?_
      refine blk_exit ?_
      refine run_seq ?_
      refine run_region rfl (fun _ _ h => h) ?_
      refine ops_val (ex_move rfl) ?_
      have hn1 := hag.next
      have hf1 := hag.first
      have hnx := hl.next
      obtain ⟨u, hu⟩ := u64_nat a1
      refine ops_val (ex_conv Try.underlying23 Try.underlying3 rfl hu) ?_
      refine ops_val (v := .pointer (some ⟨s.k.gb, 0, none⟩)) (ex_load ty24 rfl (by rw [hgb]; exact H6.cell (i := 9) (o := 0) rfl rfl)) ?_
      refine ops_val (ex_nilCheck rfl) ?_
      refine nO187 ?_
      refine ops_val (ex_fieldAddr fl31_3 rfl) ?_
      refine ops_val (ex_load ty3 rfl (H6.cell (i := 6) rfl rfl)) ?_
      refine ops_val (ex_add rfl rfl ((IntWalk.i64_in _ (by omega)).trans (show ((s.K.all.length : Int) + 1) = ((s.K.all.length + 1 : Nat) : Int) by omega))) ?_
      refine ops_val (ex_conv Try.underlying23 Try.underlying3 rfl (IntWalk.u64_in _ (by omega))) ?_
      refine nO187 ?_
      refine ops_val (ex_rem rfl rfl (by omega) (tmodN u (s.K.all.length + 1))) ?_
      have hgo : u % (s.K.all.length + 1) < s.K.all.length + 1 := Nat.mod_lt _ (by omega)
      generalize u % (s.K.all.length + 1) = nn at hgo
      refine ops_val (ex_conv Try.underlying3 Try.underlying23 rfl (IntWalk.i64_in _ (by omega))) ?_
      refine ops_val (ex_assign rfl) ?_
      refine ops_nil ?_
      change Run _ _ _ _ [_, _, _, _, _, _, _, _, _, _, _, _, _, _, _, _, _, _, _, _, _, _, _, _, _, _, _, _, _, _, _, _, _, _, _, _, _, _, _, _, _, _, _, _, _, _, _, _, _, _, _, _, _, _, _, _, _, _, _, _, _, _, _, _, _, _, _, _, _, _, _, _, _, _, _, _, _, _, _, _, _, _, _, _, _, _, _, _, _, _, _, _, _, _, _, _, _, _, _, _, _, _, _, _, _, _, _, _, _, _, _, _, _, _, _, _, _, _, _, _, _, _, _, _, _, _, _, _, _, _, _, _, _, _, _, _, _, _, _, _, _, _, _, _, _, _, _, _, _, _, _, _, _, _, _, _, _, _, _, _, _, _, _, _, _, _, _, _, _, _, _, _, _, _, _, _, _, _, _, _, _, _, _, _, _, _, _] _
      refine run_seq ?_
      refine run_seq ?_
      refine run_region rfl (fun _ _ h => h) ?_
      refine ops_val (v := .pointer (some ⟨s.k.gb, 0, none⟩)) (ex_load ty24 rfl (by rw [hgb]; exact H6.cell (i := 9) (o := 0) rfl rfl)) ?_
      refine ops_val (ex_nilCheck rfl) ?_
      refine ops_val (ex_fieldAddr fl31_1 rfl) ?_
      refine ops_val (ex_load ty28 rfl (H6.cell (i := 6) rfl rfl)) ?_
      refine nO187 ?_
      refine ops_val (ex_move rfl) ?_
      have HB : Hp w0 w6 [] (s.rows ++ [((some g4, 4, [.bool false]) : Ent), (some g5, 24, [.pointer (some ⟨gb, 0, none⟩)])]) := HB.all H6
      have hwt := hl.wait
      have htn := hl.turn
      refine ops_call (ex_call gf13 rfl) (cut_all (nn : Int) s.m s.D s.W _ HB.less.less.here hl.ok.ok (by omega) (by omega) (by omega)) ?_
      rintro r w7 hcut
      obtain ⟨x3, D3, W3, hr, hres, hwp⟩ := cut_some hcut (gone := nn) (by omega) (by omega)
      clear hcut
      obtain ⟨hx3, hrc3, hfs3, htd3, hwt3, q1, hl, Hc⟩ := hl.sc (by omega) (lt_rest2 HB) (by omega) hres hwp (by omega)
      rw [hr, hx3]
      clear hres hwp
      have hf3 : W3.first = nn := by omega
      have hln3 : W3.recs.length = s.W.recs.length - nn := by rw [hrc3, List.length_drop]
      have HB : Hp w0 w7 [] ((⟨mv s.m q1, D3, W3, s.k, s.K⟩ : Sx).rows ++ [((some g4, 4, [.bool false]) : Ent), (some g5, 24, [.pointer (some ⟨gb, 0, none⟩)])]) := HB.front2 Hc
      have H7 := HB.here
      refine ops_false (ex_neq rfl rfl) (by decide) ?_
      refine ops_nil ?_
      change Run _ _ _ _ [_, _, _, _, _, _, _, _, _, _, _, _, _, _, _, _, _, _, _, _, _, _, _, _, _, _, _, _, _, _, _, _, _, _, _, _, _, _, _, _, _, _, _, _, _, _, _, _, _, _, _, _, _, _, _, _, _, _, _, _, _, _, _, _, _, _, _, _, _, _, _, _, _, _, _, _, _, _, _, _, _, _, _, _, _, _, _, _, _, _, _, _, _, _, _, _, _, _, _, _, _, _, _, _, _, _, _, _, _, _, _, _, _, _, _, _, _, _, _, _, _, _, _, _, _, _, _, _, _, _, _, _, _, _, _, _, _, _, _, _, _, _, _, _, _, _, _, _, _, _, _, _, _, _, _, _, _, _, _, _, _, _, _, _, _, _, _, _, _, _, _, _, _, _, _, _, _, _, _, _, _, _, _, _, _, _, _] _
      refine run_cond_false rfl ?_
      refine run_skip ?_
      refine run_seq ?_
      refine run_region rfl (fun _ _ h => h) ?_
      refine ops_val (v := .pointer (some ⟨s.k.gb, 0, none⟩)) (ex_load ty24 rfl (by rw [hgb]; exact H7.cell (i := 9) (o := 0) rfl rfl)) ?_
      refine ops_val (ex_move rfl) ?_
      refine ops_val (ex_nilCheck rfl) ?_
      refine ops_val (ex_fieldAddr fl31_5 rfl) ?_
      refine nO187 ?_
      refine ops_store1 ty3 H7 6 rfl rfl rfl rfl (by first | decide | simp) rfl ?_
      intro w8 H8
      refine ops_nil ?_
      change Run _ _ _ _ [_, _, _, _, _, _, _, _, _, _, _, _, _, _, _, _, _, _, _, _, _, _, _, _, _, _, _, _, _, _, _, _, _, _, _, _, _, _, _, _, _, _, _, _, _, _, _, _, _, _, _, _, _, _, _, _, _, _, _, _, _, _, _, _, _, _, _, _, _, _, _, _, _, _, _, _, _, _, _, _, _, _, _, _, _, _, _, _, _, _, _, _, _, _, _, _, _, _, _, _, _, _, _, _, _, _, _, _, _, _, _, _, _, _, _, _, _, _, _, _, _, _, _, _, _, _, _, _, _, _, _, _, _, _, _, _, _, _, _, _, _, _, _, _, _, _, _, _, _, _, _, _, _, _, _, _, _, _, _, _, _, _, _, _, _, _, _, _, _, _, _, _, _, _, _, _, _, _, _, _, _, _, _, _, _, _, _] _
      refine run_seq ?_
      refine run_region rfl (fun _ _ h => h) ?_
      have HB : Hp w0 w8 [] ((⟨mv s.m q1, D3, W3, s.k, ({ s.K with first := nn } : Bk)⟩ : Sx).rows ++ [((some g4, 4, [.bool false]) : Ent), (some g5, 24, [.pointer (some ⟨gb, 0, none⟩)])]) := HB.all H8
      replace hl : Live w8 (⟨mv s.m q1, D3, W3, s.k, ({ s.K with first := nn } : Bk)⟩ : Sx) [((some g4, 4, [.bool false]) : Ent), (some g5, 24, [.pointer (some ⟨gb, 0, none⟩)])] 1024 (i + 1) := (hl.to H8).re ({ s.K with first := nn } : Bk) rfl
      have hag2 : Agr W3 ({ s.K with first := nn } : Bk) := ⟨by show nn = W3.first; omega, by show s.K.all.length = W3.first + W3.recs.length; omega, by show W3.recs = s.K.all.drop W3.first; rw [hrc3, hag.recs, List.drop_drop, hf3, hf0, Nat.zero_add]⟩
      have hnx2 : s.K.all.length = W3.first + W3.recs.length := hag2.next
      have hrcs : W3.recs = s.K.all.drop W3.first := hag2.recs
      replace H8 := HB.here
      refine ops_val (v := .pointer (some ⟨s.k.gb, 0, none⟩)) (ex_load ty24 rfl (by rw [hgb]; exact H8.cell (i := 9) (o := 0) rfl rfl)) ?_
      refine ops_val (ex_nilCheck rfl) ?_
      refine ops_val (ex_fieldAddr fl31_1 rfl) ?_
      refine ops_val (ex_load ty28 rfl (H8.cell (i := 6) rfl rfl)) ?_
      refine nO187 ?_
      refine ops_call (ex_call gf20 rfl) (all_any (.pointer (some ⟨(mv s.m q1).gv, 0, none⟩)) _ rfl) ?_
      rintro r w9 ⟨gx, hr, Hc⟩
      rw [hr]
      have H9 := H8.call0 Hc
      refine ops_val (ex_assign rfl) ?_
      refine ops_nil ?_
      change Run _ _ _ _ [_, _, _, _, _, _, _, _, _, _, _, _, _, _, _, _, _, _, _, _, _, _, _, _, _, _, _, _, _, _, _, _, _, _, _, _, _, _, _, _, _, _, _, _, _, _, _, _, _, _, _, _, _, _, _, _, _, _, _, _, _, _, _, _, _, _, _, _, _, _, _, _, _, _, _, _, _, _, _, _, _, _, _, _, _, _, _, _, _, _, _, _, _, _, _, _, _, _, _, _, _, _, _, _, _, _, _, _, _, _, _, _, _, _, _, _, _, _, _, _, _, _, _, _, _, _, _, _, _, _, _, _, _, _, _, _, _, _, _, _, _, _, _, _, _, _, _, _, _, _, _, _, _, _, _, _, _, _, _, _, _, _, _, _, _, _, _, _, _, _, _, _, _, _, _, _, _, _, _, _, _, _, _, _, _, _, _] _
      refine run_seq ?_
      refine run_seq ?_
      refine run_region rfl (fun _ _ h => h) ?_
      refine ops_val (ex_move rfl) ?_
      refine ops_val (ex_eql_nil_func Try.underlying46 rfl) ?_
      refine ops_nil ?_
      change Run _ _ _ _ [_, _, _, _, _, _, _, _, _, _, _, _, _, _, _, _, _, _, _, _, _, _, _, _, _, _, _, _, _, _, _, _, _, _, _, _, _, _, _, _, _, _, _, _, _, _, _, _, _, _, _, _, _, _, _, _, _, _, _, _, _, _, _, _, _, _, _, _, _, _, _, _, _, _, _, _, _, _, _, _, _, _, _, _, _, _, _, _, _, _, _, _, _, _, _, _, _, _, _, _, _, _, _, _, _, _, _, _, _, _, _, _, _, _, _, _, _, _, _, _, _, _, _, _, _, _, _, _, _, _, _, _, _, _, _, _, _, _, _, _, _, _, _, _, _, _, _, _, _, _, _, _, _, _, _, _, _, _, _, _, _, _, _, _, _, _, _, _, _, _, _, _, _, _, _, _, _, _, _, _, _, _, _, _, _, _, _] _
      refine run_cond_false rfl ?_
      refine run_skip ?_
      refine run_seq ?_
      refine run_region rfl (fun _ _ h => h) ?_
      refine ops_val (ex_move rfl) ?_
      refine ops_alloc ty3 H9 ?_
      intro w10 g9 H10 hg9
      refine ops_store1 ty3 H10 11 rfl rfl rfl rfl (by decide) rfl ?_
      intro w11 H11
      have hlG : Live w11 (⟨mv s.m q1, D3, W3, s.k, ({ s.K with first := nn } : Bk)⟩ : Sx) ([((some g4, 4, [.bool false]) : Ent), (some g5, 24, [.pointer (some ⟨gb, 0, none⟩)])] ++ [((some gx, 28, [.pointer (some ⟨(mv s.m q1).gv, 0, none⟩)]) : Ent), ((some g9, 3, [.int .i64 ((nn : Nat) : Int)]) : Ent)]) 1024 (i + 1) := hl.grow (G := [((some gx, 28, [.pointer (some ⟨(mv s.m q1).gv, 0, none⟩)]) : Ent), ((some g9, 3, [.int .i64 ((nn : Nat) : Int)]) : Ent)]) H11 rfl
      have HR : Hp w0 w11 [] (((⟨mv s.m q1, D3, W3, s.k, ({ s.K with first := nn } : Bk)⟩ : Sx).rows ++ [((some g4, 4, [.bool false]) : Ent), (some g5, 24, [.pointer (some ⟨gb, 0, none⟩)])]) ++ [((some gx, 28, [.pointer (some ⟨(mv s.m q1).gv, 0, none⟩)]) : Ent), ((some g9, 3, [.int .i64 ((nn : Nat) : Int)]) : Ent)]) := HB.all H11
      have hg9f : ∀ x ∈ recBs (mv s.m q1).xs, x ≠ g9 := fun x hx h9 => by
        have h1 := recBs_lt hl.ok.ok.lst x hx
        rcases Hp.place (i := 11) H11 rfl with h2 | h2
        · exact row_not H11 (i := 11) rfl (is := [0, 1, 2, 3, 4, 5, 6, 7, 8, 9]) (by decide) h2
        · omega
      obtain ⟨wR, hwR⟩ : ∃ x, x = w11 := ⟨_, rfl⟩
      rw [← hwR] at hlG HR ⊢
      refine ops_nil ?_
      change Run _ _ _ _ [_, _, _, _, _, _, _, _, _, _, _, _, _, _, _, _, _, _, _, _, _, _, _, _, _, _, _, _, _, _, _, _, _, _, _, _, _, _, _, _, _, _, _, _, _, _, _, _, _, _, _, _, _, _, _, _, _, _, _, _, _, _, _, _, _, _, _, _, _, _, _, _, _, _, _, _, _, _, _, _, _, _, _, _, _, _, _, _, _, _, _, _, _, _, _, _, _, _, _, _, _, _, _, _, _, _, _, _, _, _, _, _, _, _, _, _, _, _, _, _, _, _, _, _, _, _, _, _, _, _, _, _, _, _, _, _, _, _, _, _, _, _, _, _, _, _, _, _, _, _, _, _, _, _, _, _, _, _, _, _, _, _, _, _, _, _, _, _, _, _, _, _, _, _, _, _, _, _, _, _, _, _, _, _, _, _, _] _
      refine run_seq ?_
      refine run_seq ?_
      refine run_region rfl (fun _ _ h => h) ?_
      refine ops_val (ex_move rfl) ?_
      refine ops_nil ?_
      change Run _ _ _ _ [_, _, _, _, _, _, _, _, _, _, _, _, _, _, _, _, _, _, _, _, _, _, _, _, _, _, _, _, _, _, _, _, _, _, _, _, _, _, _, _, _, _, _, _, _, _, _, _, _, _, _, _, _, _, _, _, _, _, _, _, _, _, _, _, _, _, _, _, _, _, _, _, _, _, _, _, _, _, _, _, _, _, _, _, _, _, _, _, _, _, _, _, _, _, _, _, _, _, _, _, _, _, _, _, _, _, _, _, _, _, _, _, _, _, _, _, _, _, _, _, _, _, _, _, _, _, _, _, _, _, _, _, _, _, _, _, _, _, _, _, _, _, _, _, _, _, _, _, _, _, _, _, _, _, _, _, _, _, _, _, _, _, _, _, _, _, _, _, _, _, _, _, _, _, _, _, _, _, _, _, _, _, _, _, _, _, _] _
      refine run_block ?_
      have hszR := HR.size
      have hgxl := HR.lt (i := 10) rfl
      have hg9l := HR.lt (i := 11) rfl
      have hgvl := HR.lt (i := 3) rfl
      have hn1x : g9 ≠ gx := HR.ne (i := 11) (j := 10) rfl rfl (by decide)
      have hn2x : g9 ≠ (mv s.m q1).gv := HR.ne (i := 11) (j := 3) rfl rfl (by decide)
      refine run_range (ps := [80, 81]) (gf := 53) (lb := [.pointer (some ⟨gx, 0, none⟩)]) (N := W3.recs.length) (B := (gx :: (mv s.m q1).gv :: recBs (mv s.m q1).xs)) Try.func6 rfl gf53
        (It := AllIt wR.heap.size W3)
        (fun w1 Hw1 => by
          have HQ := HR.callN Hw1
          exact all_iter gx (mv s.m q1) D3 W3 w1 HQ.less.less.less.here (hlG.keep0 Hw1).ok.ok (HQ.cell (i := 10) (o := 0) rfl rfl) wR.heap.size Hw1.size)
        (fun x hx => by
          simp only [List.mem_cons] at hx
          rcases hx with rfl | rfl | hx
          · exact hgxl
          · exact hgvl
          · exact recBs_lt hlG.ok.ok.lst x hx)
        (fun k W1 O => O = bl [((some g9, 3, [.int .i64 ((nn : Nat) : Int)]) : Ent)] ∧ Hp wR W1 (bl [((some g9, 3, [.int .i64 ((nn : Nat) : Int)]) : Ent)]) [((some g9, 3, [.int .i64 (((nn + k : Nat) : Int) : Int)]) : Ent)])
        (fun _ _ => False) (fun _ _ => False)
        (bl [((some g9, 3, [.int .i64 ((nn : Nat) : Int)]) : Ent)])
        (fun x hx => by
          have hx3 : x = g9 := by simpa [bl] using hx
          subst hx3
          exact cons_not hn1x hn2x (fun h9 => hg9f _ h9 rfl))
        (fun l args => (((l.set 80 (args.getD 0 undef)).set 81 (args.getD 1 undef)).set 10 (args.getD 0 undef)).set 11 (args.getD 1 undef))
        (fun k W1 O hJ b hb => by
          obtain ⟨rfl, HJ⟩ := hJ
          exact bl_cells HJ b hb)
        (fun k W1 O W2 L hJ hL HL hnl => by
          obtain ⟨h1, HJ⟩ := hJ
          exact ⟨h1, HJ.loop HL hnl hL⟩)
        (fun _ _ _ _ hx => hx.elim)
        (fun k W1 args G hI => by
          obtain ⟨b, g, cap, sp, i1, rfl, i2, i3, i4, rfl, i5, i6⟩ := hI
          refine ⟨rfl, bl_cells i5, fun W2 L HL hL hnl => ⟨b, g, cap, sp, i1, rfl, i2, i3, i4, rfl, ?_, i6⟩⟩
          exact (((i5.wide (S' := bl [((g, 5, u8s b ++ sp) : Ent)] ++ [L]) (fun x hx => List.mem_append.2 (.inl hx))).past HL (fun x hx => .inl (List.mem_append.2 (.inr hx))) (fun x hx hx2 => by
            obtain ⟨arr, T, z, hz⟩ := bl_cells i5 x hx
            rw [List.mem_singleton.1 hx2] at hz
            exact hnl _ _ _ hz))).here)
        ⟨rfl, (HR.pick [11] (by decide)).here.wide (fun x hx => hx)⟩ ?_ ?_ ?_ (fun _ _ _ hx => hx.elim) (fun _ _ _ hx => hx.elim)
      · rintro k W1 args G L ⟨b, gn, cn, sn, _, rfl, _⟩
        change Run _ _ _ _ [_, _, _, _, _, _, _, _, _, _, _, _, _, _, _, _, _, _, _, _, _, _, _, _, _, _, _, _, _, _, _, _, _, _, _, _, _, _, _, _, _, _, _, _, _, _, _, _, _, _, _, _, _, _, _, _, _, _, _, _, _, _, _, _, _, _, _, _, _, _, _, _, _, _, _, _, _, _, _, _, _, _, _, _, _, _, _, _, _, _, _, _, _, _, _, _, _, _, _, _, _, _, _, _, _, _, _, _, _, _, _, _, _, _, _, _, _, _, _, _, _, _, _, _, _, _, _, _, _, _, _, _, _, _, _, _, _, _, _, _, _, _, _, _, _, _, _, _, _, _, _, _, _, _, _, _, _, _, _, _, _, _, _, _, _, _, _, _, _, _, _, _, _, _, _, _, _, _, _, _, _, _, _, _, _, _, _] _
        refine run_seq ?_
        refine run_region rfl (fun _ _ h => (by cases h.1)) ?_
        refine ops_val (ex_assign rfl) ?_
        refine ops_nil ?_
        change Run _ _ _ _ [_, _, _, _, _, _, _, _, _, _, _, _, _, _, _, _, _, _, _, _, _, _, _, _, _, _, _, _, _, _, _, _, _, _, _, _, _, _, _, _, _, _, _, _, _, _, _, _, _, _, _, _, _, _, _, _, _, _, _, _, _, _, _, _, _, _, _, _, _, _, _, _, _, _, _, _, _, _, _, _, _, _, _, _, _, _, _, _, _, _, _, _, _, _, _, _, _, _, _, _, _, _, _, _, _, _, _, _, _, _, _, _, _, _, _, _, _, _, _, _, _, _, _, _, _, _, _, _, _, _, _, _, _, _, _, _, _, _, _, _, _, _, _, _, _, _, _, _, _, _, _, _, _, _, _, _, _, _, _, _, _, _, _, _, _, _, _, _, _, _, _, _, _, _, _, _, _, _, _, _, _, _, _, _, _, _, _] _
        refine run_region rfl (fun _ _ h => (by cases h.1)) ?_
        refine ops_val (ex_assign rfl) ?_
        refine ops_nil ?_
        change Run _ _ _ _ [_, _, _, _, _, _, _, _, _, _, _, _, _, _, _, _, _, _, _, _, _, _, _, _, _, _, _, _, _, _, _, _, _, _, _, _, _, _, _, _, _, _, _, _, _, _, _, _, _, _, _, _, _, _, _, _, _, _, _, _, _, _, _, _, _, _, _, _, _, _, _, _, _, _, _, _, _, _, _, _, _, _, _, _, _, _, _, _, _, _, _, _, _, _, _, _, _, _, _, _, _, _, _, _, _, _, _, _, _, _, _, _, _, _, _, _, _, _, _, _, _, _, _, _, _, _, _, _, _, _, _, _, _, _, _, _, _, _, _, _, _, _, _, _, _, _, _, _, _, _, _, _, _, _, _, _, _, _, _, _, _, _, _, _, _, _, _, _, _, _, _, _, _, _, _, _, _, _, _, _, _, _, _, _, _, _, _] _
        refine run_nil ?_
        exact ⟨rfl, rfl, rfl, rfl⟩
      · rintro k W1 O args G L hk ⟨rfl, HJ⟩ ⟨b, gn, cn, sn, hbk, rfl, i2, i3, i4, rfl, i5, i6⟩ hGO
        have HB1 : Hp W1 W1 (bl [((some g9, 3, [.int .i64 ((nn : Nat) : Int)]) : Ent), ((gn, 5, u8s b ++ sn) : Ent)]) [((some g9, 3, [.int .i64 (((nn + k : Nat) : Int) : Int)]) : Ent), ((gn, 5, u8s b ++ sn) : Ent)] := HJ.here.both i5 (fun x hx hx2 => hGO x hx2 hx)
        have HR1 : Hp w0 W1 [] (((⟨mv s.m q1, D3, W3, s.k, ({ s.K with first := nn } : Bk)⟩ : Sx).rows ++ [((some g4, 4, [.bool false]) : Ent), (some g5, 24, [.pointer (some ⟨gb, 0, none⟩)])]) ++ [((some gx, 28, [.pointer (some ⟨(mv s.m q1).gv, 0, none⟩)]) : Ent), ((some g9, 3, [.int .i64 (((nn + k : Nat) : Int) : Int)]) : Ent)]) := (HR.callr [11] rfl HJ).pick [0, 1, 2, 3, 4, 5, 6, 7, 8, 9, 10, 12] (by decide)
        have hnot : ∀ i g T cs, (((⟨mv s.m q1, D3, W3, s.k, ({ s.K with first := nn } : Bk)⟩ : Sx).rows ++ [((some g4, 4, [.bool false]) : Ent), (some g5, 24, [.pointer (some ⟨gb, 0, none⟩)])]) ++ [((some gx, 28, [.pointer (some ⟨(mv s.m q1).gv, 0, none⟩)]) : Ent), ((some g9, 3, [.int .i64 ((nn : Nat) : Int)]) : Ent)])[i]? = some (some g, T, cs) → i ≠ 11 → g ∉ (bl [((some g9, 3, [.int .i64 ((nn : Nat) : Int)]) : Ent), ((gn, 5, u8s b ++ sn) : Ent)]) := by
          intro i g T cs hi hne hx
          have hx2 : g = g9 ∨ gn = some g := by
            have h1 : g ∈ bl [((some g9, 3, [.int .i64 ((nn : Nat) : Int)]) : Ent)] ∨ g ∈ bl [((gn, 5, u8s b ++ sn) : Ent)] := by rw [← List.mem_append, ← bl_append]; exact hx
            rcases h1 with h1 | h1
            · exact .inl (by simpa [bl] using h1)
            · exact .inr (by simpa [bl] using h1)
          rcases hx2 with rfl | h2
          · exact HR.ne hi (j := 11) rfl hne rfl
          · have h3 := HR.lt hi
            have h4 := i6 g (by simp [bl, h2])
            omega
        obtain ⟨hlt, hbe⟩ := at_drop hrcs hbk
        rw [hf3] at hlt
        have hbe : s.K.all[nn + k] = b := by
          have h1 : s.K.all[W3.first + k] = b := hbe
          simp only [hf3] at h1
          exact h1
        have hblen : b.length ≤ 16384 := hl.ok.ok.long b (List.mem_of_getElem? hbk)
        have hall1 : Lsw W1 [((some g9, 3, [.int .i64 (((nn + k : Nat) : Int) : Int)]) : Ent), ((gn, 5, u8s b ++ sn) : Ent)] s.k.ys s.K.all := hlG.ok.all.keep HJ (fun x hx => by
          have h9 : x = g9 := by simpa [bl] using hx
          rw [h9]
          exact List.mem_filterMap.2 ⟨((some g9, 3, [.int .i64 ((nn : Nat) : Int)]) : Ent), List.mem_of_getElem? (i := 11) rfl, rfl⟩) (fun x hx => by
          have h1 : x ∈ bl [((some g9, 3, [.int .i64 ((nn : Nat) : Int)]) : Ent)] ∨ x ∈ bl [((gn, 5, u8s b ++ sn) : Ent)] := by rw [← List.mem_append, ← bl_append]; exact hx
          rcases h1 with h1 | h1
          · have h9 : x = g9 := by simpa [bl] using h1
            rw [h9]
            exact .inl (List.mem_filterMap.2 ⟨((some g9, 3, [.int .i64 ((nn : Nat) : Int)]) : Ent), List.mem_of_getElem? (i := 11) rfl, rfl⟩)
          · exact .inr (i6 x h1))
        obtain ⟨Be, ce, hye, hre, hae⟩ := hall1.2 (nn + k) hlt
        rw [hbe] at hye hre hae
        obtain ⟨gy, hgy⟩ : ∃ gy, s.k.ga = some gy := own_some HR1 (i := 7) rfl (by rw [List.length_append, hall1.1]; omega)
        have hc5 := HR1.cell (i := 9) (o := 0) rfl rfl
        have n5 := hnot 9 _ _ _ rfl (by decide)
        have hcb : W1.cell? ⟨gb, 2, none⟩ = some (.slice (some ⟨gy, 0, none⟩) s.K.all.length s.k.ca) := by
          rw [← hgb]
          have h1 := HR1.cell (i := 6) (o := 2) (v := .slice (hd s.k.ga) s.K.all.length s.k.ca) rfl rfl
          rw [hgy] at h1
          exact h1
        have nb : gb ∉ (bl [((some g9, 3, [.int .i64 ((nn : Nat) : Int)]) : Ent), ((gn, 5, u8s b ++ sn) : Ent)]) := by rw [← hgb]; exact hnot 6 _ _ _ rfl (by decide)
        have hysR : Rd W1 (some ⟨gy, 0, none⟩) s.K.all.length 1 s.k.ys := by
          have h1 := HR1.rd (i := 7) (o := s.k.ga) (xs := s.k.ys) (sp := s.k.sa) rfl (by rw [hall1.1, Nat.mul_one]) (by decide)
          rw [hgy] at h1
          exact h1
        have ny : ∀ p : Addr, (some ⟨gy, 0, none⟩ : Option Addr) = some p → p.block ∉ (bl [((some g9, 3, [.int .i64 ((nn : Nat) : Int)]) : Ent), ((gn, 5, u8s b ++ sn) : Ent)]) := by
          intro p hp
          simp only [Option.some.injEq] at hp
          subst hp
          have h1 : (((⟨mv s.m q1, D3, W3, s.k, ({ s.K with first := nn } : Bk)⟩ : Sx).rows ++ [((some g4, 4, [.bool false]) : Ent), (some g5, 24, [.pointer (some ⟨gb, 0, none⟩)])]) ++ [((some gx, 28, [.pointer (some ⟨(mv s.m q1).gv, 0, none⟩)]) : Ent), ((some g9, 3, [.int .i64 ((nn : Nat) : Int)]) : Ent)])[7]? = some (some gy, 34, s.k.ys ++ s.k.sa) := by rw [← hgy]; rfl
          exact hnot 7 _ _ _ h1 (by decide)
        change Run _ _ _ _ [_, _, _, _, _, _, _, _, _, _, _, _, _, _, _, _, _, _, _, _, _, _, _, _, _, _, _, _, _, _, _, _, _, _, _, _, _, _, _, _, _, _, _, _, _, _, _, _, _, _, _, _, _, _, _, _, _, _, _, _, _, _, _, _, _, _, _, _, _, _, _, _, _, _, _, _, _, _, _, _, _, _, _, _, _, _, _, _, _, _, _, _, _, _, _, _, _, _, _, _, _, _, _, _, _, _, _, _, _, _, _, _, _, _, _, _, _, _, _, _, _, _, _, _, _, _, _, _, _, _, _, _, _, _, _, _, _, _, _, _, _, _, _, _, _, _, _, _, _, _, _, _, _, _, _, _, _, _, _, _, _, _, _, _, _, _, _, _, _, _, _, _, _, _, _, _, _, _, _, _, _, _, _, _, _, _, _] _
        refine run_block ?_
        refine run_seq ?_
        refine run_seq ?_
        refine run_mixZ 23 [(true, 0), (true, 1), (true, 2), (true, 3), (true, 4), (true, 5), (true, 6), (true, 7), (true, 8), (true, 9), (true, 10), (true, 11), (true, 12), (true, 13), (true, 14), (true, 15), (true, 16), (true, 17), (true, 18), (true, 19), (true, 20), (false, 21), (true, 22), (false, 23)] HB1 [0, 1] mixed (by decide) (by kernel_rfl) rfl ?_
        rintro w12 hw12
        have H12 := Hp.drew HB1; rw [← hw12] at H12
        refine mixz_p rfl ?_
        refine mix1_val (fun wz hz => ex_move rfl) ?_
        refine mixz_p rfl ?_
        refine mix1_val (fun wz hz => ex_load ty3 rfl (hz.cell (i := 0) rfl rfl)) ?_
        refine mixz_p rfl ?_
        refine mix1_false (fun wz hz => ex_neq rfl rfl) (by omega) ?_
        refine mixz_p rfl ?_
        refine mix1_val (fun wz hz => ex_move rfl) ?_
        refine nZ187 ?_
        refine mixz_p rfl ?_
        refine mix1_yes rfl ?_
        refine mix1_val (fun wz hz => ex_load ty3 rfl (hz.cell (i := 0) rfl rfl)) ?_
        refine mixz_p rfl ?_
        refine mix1_yes rfl ?_
        refine mix1_val (fun wz hz => ex_load ty24 rfl (cell_toW hc5 hz n5)) ?_
        refine mixz_p rfl ?_
        refine mix1_yes rfl ?_
        refine mix1_val (fun wz hz => ex_nilCheck rfl) ?_
        refine mixz_p rfl ?_
        refine mix1_yes rfl ?_
        refine mix1_val (fun wz hz => ex_fieldAddr fl31_2 rfl) ?_
        refine nZ187 ?_
        refine mixz_p rfl ?_
        refine mix1_yes rfl ?_
        refine mix1_val (fun wz hz => ex_load ty29 rfl (cell_toW hcb hz nb)) ?_
        refine mixz_p rfl ?_
        refine mix1_yes rfl ?_
        refine mix1_val (fun wz hz => ex_len_slice Try.underlying29 rfl) ?_
        refine mixz_p rfl ?_
        refine mix1_yes rfl ?_
        refine mix1_false (fun wz hz => ex_geq rfl rfl) (by omega) ?_
        refine mixz_p rfl ?_
        refine mix1_val (fun wz hz => ex_pick_f rfl rfl) ?_
        refine nZ187 ?_
        refine mixz_p rfl ?_
        refine mix1_val (fun wz hz => ex_move rfl) ?_
        refine mixz_p rfl ?_
        refine mix1_yes rfl ?_
        refine mix1_val (fun wz hz => ex_move rfl) ?_
        refine mixz_p rfl ?_
        refine mix1_yes rfl ?_
        refine mix1_val (fun wz hz => ex_load ty24 rfl (cell_toW hc5 hz n5)) ?_
        refine mixz_p rfl ?_
        refine mix1_yes rfl ?_
        refine mix1_val (fun wz hz => ex_nilCheck rfl) ?_
        refine nZ187 ?_
        refine mixz_p rfl ?_
        refine mix1_yes rfl ?_
        refine mix1_val (fun wz hz => ex_fieldAddr fl31_2 rfl) ?_
        refine mixz_p rfl ?_
        refine mix1_yes rfl ?_
        refine mix1_val (fun wz hz => ex_load ty29 rfl (cell_toW hcb hz nb)) ?_
        refine mixz_p rfl ?_
        refine mix1_yes rfl ?_
        refine mix1_val (fun wz hz => ex_load ty3 rfl (hz.cell (i := 0) rfl rfl)) ?_
        refine mixz_p rfl ?_
        refine mix1_yes rfl ?_
        refine mix1_val (fun wz hz => ex_idx Try.underlying29 ty34 rfl rfl (i := nn + k) rfl hlt (Nat.mul_one _)) ?_
        refine nZ187 ?_
        refine mixz_p rfl ?_
        refine mix1_yes rfl ?_
        refine mix1_val (fun wz hz => ex_load ty34 rfl ((hysR.to hz ny).cells _ rfl (nn + k) _ hye)) ?_
        refine mixz_o rfl ?_
        refine ops_yes rfl ?_
        have hk2 := bytes_any (hd gn) Be b b cn ce w12 (H12.rd (i := 1) (o := gn) (xs := u8s b) (sp := sn) rfl (u8s_length1 _) (by decide)) (Rd.fcw hre H12 hae) (by omega) (by omega)
        rw [decide_eq_true rfl] at hk2
        refine ops_call_val (ex_call gf21 rfl) hk2 ?_
        intro w13 Hd
        have H13 := H12.callN Hd
        refine ops_nil ?_
        refine ⟨fun hne => H13.pick [0, 1] (by decide), ?_⟩
        refine nZ187 ?_
        refine mixz_p rfl ?_
        refine mix1_yes rfl ?_
        refine mix1_val (fun wz hz => ex_not rfl) ?_
        refine mixz_o rfl ?_
        refine ops_val (ex_pick_f rfl rfl) ?_
        refine ops_nil ?_
        refine ⟨fun hne => absurd rfl hne, ?_⟩
        refine nZ187 ?_
        refine mixz_nil ?_
        change Run _ _ _ _ [_, _, _, _, _, _, _, _, _, _, _, _, _, _, _, _, _, _, _, _, _, _, _, _, _, _, _, _, _, _, _, _, _, _, _, _, _, _, _, _, _, _, _, _, _, _, _, _, _, _, _, _, _, _, _, _, _, _, _, _, _, _, _, _, _, _, _, _, _, _, _, _, _, _, _, _, _, _, _, _, _, _, _, _, _, _, _, _, _, _, _, _, _, _, _, _, _, _, _, _, _, _, _, _, _, _, _, _, _, _, _, _, _, _, _, _, _, _, _, _, _, _, _, _, _, _, _, _, _, _, _, _, _, _, _, _, _, _, _, _, _, _, _, _, _, _, _, _, _, _, _, _, _, _, _, _, _, _, _, _, _, _, _, _, _, _, _, _, _, _, _, _, _, _, _, _, _, _, _, _, _, _, _, _, _, _, _] _
        refine run_cond_false rfl ?_
        refine run_skip ?_
        refine run_seq ?_
        refine run_seq ?_
        refine run_region rfl (fun _ _ h => h) ?_
        refine ops_val (ex_assign rfl) ?_
        refine ops_nil ?_
        change Run _ _ _ _ [_, _, _, _, _, _, _, _, _, _, _, _, _, _, _, _, _, _, _, _, _, _, _, _, _, _, _, _, _, _, _, _, _, _, _, _, _, _, _, _, _, _, _, _, _, _, _, _, _, _, _, _, _, _, _, _, _, _, _, _, _, _, _, _, _, _, _, _, _, _, _, _, _, _, _, _, _, _, _, _, _, _, _, _, _, _, _, _, _, _, _, _, _, _, _, _, _, _, _, _, _, _, _, _, _, _, _, _, _, _, _, _, _, _, _, _, _, _, _, _, _, _, _, _, _, _, _, _, _, _, _, _, _, _, _, _, _, _, _, _, _, _, _, _, _, _, _, _, _, _, _, _, _, _, _, _, _, _, _, _, _, _, _, _, _, _, _, _, _, _, _, _, _, _, _, _, _, _, _, _, _, _, _, _, _, _, _] _
        refine run_block ?_
        refine run_loop (fun n l w => ∃ (iz : Nat) (y4 : Int) (cs : List Value), b.length - iz = n ∧ Fits [none, none, none, none, some (.pointer (some ⟨g4, 0, none⟩)), some (.pointer (some ⟨g5, 0, none⟩)), none, none, none, some (.pointer (some ⟨g9, 0, none⟩)), none, some (.slice (hd gn) b.length cn), some (.int .i64 y4), none, none, none, none, none, none, none, none, none, none, none, none, none, none, none, none, none, none, none, none, none, none, none, none, none, none, none, none, none, none, none, none, none, none, none, none, none, none, none, none, none, none, none, none, none, none, none, none, none, none, none, none, none, none, none, none, none, none, none, none, none, none, none, none, none, none, none, none, none, none, none, none, none, none, none, none, none, none, none, none, none, none, none, none, none, none, none, none, none, none, none, none, none, none, none, none, none, none, none, none, none, none, none, none, none, none, none, none, none, none, none, none, none, none, none, none, none, none, none, none, none, none, none, none, none, none, none, none, none, none, none, none, none, none, none, none, none, none, none, none, none, none, none, none, none, none, none, none, none, none, none, none, none, none, none, none, none, none, none, none, none, none, none, none, none, none, none, none, none, none, none, none, none, none] l ∧ y4 = (iz : Int) ∧ iz ≤ b.length ∧ b.length ≤ cs.length ∧ Hp W1 w (bl [((some g9, 3, [.int .i64 ((nn : Nat) : Int)]) : Ent), ((gn, 5, u8s b ++ sn) : Ent)]) [((some g9, 3, [.int .i64 (((nn + k : Nat) : Int) : Int)]) : Ent), ((gn, 5, cs) : Ent)]) (b.length) ?_ ?_
        · exact ⟨0, _, _, rfl, (fn (fn (fn (fn (fs (fs (fn (fn (fn (fs (fn (fs (fs (fn (fn (fn (fn (fn (fn (fn (fn (fn (fn (fn (fn (fn (fn (fn (fn (fn (fn (fn (fn (fn (fn (fn (fn (fn (fn (fn (fn (fn (fn (fn (fn (fn (fn (fn (fn (fn (fn (fn (fn (fn (fn (fn (fn (fn (fn (fn (fn (fn (fn (fn (fn (fn (fn (fn (fn (fn (fn (fn (fn (fn (fn (fn (fn (fn (fn (fn (fn (fn (fn (fn (fn (fn (fn (fn (fn (fn (fn (fn (fn (fn (fn (fn (fn (fn (fn (fn (fn (fn (fn (fn (fn (fn (fn (fn (fn (fn (fn (fn (fn (fn (fn (fn (fn (fn (fn (fn (fn (fn (fn (fn (fn (fn (fn (fn (fn (fn (fn (fn (fn (fn (fn (fn (fn (fn (fn (fn (fn (fn (fn (fn (fn (fn (fn (fn (fn (fn (fn (fn (fn (fn (fn (fn (fn (fn (fn (fn (fn (fn (fn (fn (fn (fn (fn (fn (fn (fn (fn (fn (fn (fn (fn (fn (fn (fn (fn (fn (fn (fn (fn (fn (fn (fn (fn f0))))))))))))))))))))))))))))))))))))))))))))))))))))))))))))))))))))))))))))))))))))))))))))))))))))))))))))))))))))))))))))))))))))))))))))))))))))))))))))))))))))))))))))))))))))))))))), rfl, Nat.zero_le _, by rw [List.length_append, u8s_length]; omega, H13⟩
        · rintro n l w14 ⟨iz, y4, cs, rfl, hfit, rfl, hiz, hcl, H14⟩
          obtain ⟨j, rfl⟩ := hfit.open
          change Run _ _ _ _ [_, _, _, _, _, _, _, _, _, _, _, _, _, _, _, _, _, _, _, _, _, _, _, _, _, _, _, _, _, _, _, _, _, _, _, _, _, _, _, _, _, _, _, _, _, _, _, _, _, _, _, _, _, _, _, _, _, _, _, _, _, _, _, _, _, _, _, _, _, _, _, _, _, _, _, _, _, _, _, _, _, _, _, _, _, _, _, _, _, _, _, _, _, _, _, _, _, _, _, _, _, _, _, _, _, _, _, _, _, _, _, _, _, _, _, _, _, _, _, _, _, _, _, _, _, _, _, _, _, _, _, _, _, _, _, _, _, _, _, _, _, _, _, _, _, _, _, _, _, _, _, _, _, _, _, _, _, _, _, _, _, _, _, _, _, _, _, _, _, _, _, _, _, _, _, _, _, _, _, _, _, _, _, _, _, _, _] _
          clear hfit
          refine run_seq ?_
          refine run_seq ?_
          refine run_region rfl (fun _ _ h => h) ?_
          refine ops_val (ex_move rfl) ?_
          refine ops_val (ex_move rfl) ?_
          refine ops_val (ex_len_slice Try.underlying34 rfl) ?_
          refine ops_test (ex_lss rfl rfl) (fun hp109 => ?_) (fun hp109 => ?_)
          · have hil : iz < b.length := by omega
            obtain ⟨gz, rfl⟩ := own_some H14 (i := 1) rfl (by omega)
            refine ops_nil ?_
            change Run _ _ _ _ [_, _, _, _, _, _, _, _, _, _, _, _, _, _, _, _, _, _, _, _, _, _, _, _, _, _, _, _, _, _, _, _, _, _, _, _, _, _, _, _, _, _, _, _, _, _, _, _, _, _, _, _, _, _, _, _, _, _, _, _, _, _, _, _, _, _, _, _, _, _, _, _, _, _, _, _, _, _, _, _, _, _, _, _, _, _, _, _, _, _, _, _, _, _, _, _, _, _, _, _, _, _, _, _, _, _, _, _, _, _, _, _, _, _, _, _, _, _, _, _, _, _, _, _, _, _, _, _, _, _, _, _, _, _, _, _, _, _, _, _, _, _, _, _, _, _, _, _, _, _, _, _, _, _, _, _, _, _, _, _, _, _, _, _, _, _, _, _, _, _, _, _, _, _, _, _, _, _, _, _, _, _, _, _, _, _, _] _
            refine run_cond_true rfl ?_
            refine run_skip ?_
            refine run_seq ?_
            refine run_block ?_
            refine run_region rfl (fun _ _ h => h) ?_
            refine ops_val (ex_move rfl) ?_
            refine ops_val (ex_move rfl) ?_
            refine ops_val (ex_idx Try.underlying34 ty5 rfl rfl rfl hil (Nat.mul_one _)) ?_
            rw [Addr.add_lit]
            refine ops_store1 ty5 H14 1 rfl rfl rfl rfl (by omega) rfl ?_
            intro w15 H15
            refine ops_nil ?_
            change Run _ _ _ _ [_, _, _, _, _, _, _, _, _, _, _, _, _, _, _, _, _, _, _, _, _, _, _, _, _, _, _, _, _, _, _, _, _, _, _, _, _, _, _, _, _, _, _, _, _, _, _, _, _, _, _, _, _, _, _, _, _, _, _, _, _, _, _, _, _, _, _, _, _, _, _, _, _, _, _, _, _, _, _, _, _, _, _, _, _, _, _, _, _, _, _, _, _, _, _, _, _, _, _, _, _, _, _, _, _, _, _, _, _, _, _, _, _, _, _, _, _, _, _, _, _, _, _, _, _, _, _, _, _, _, _, _, _, _, _, _, _, _, _, _, _, _, _, _, _, _, _, _, _, _, _, _, _, _, _, _, _, _, _, _, _, _, _, _, _, _, _, _, _, _, _, _, _, _, _, _, _, _, _, _, _, _, _, _, _, _, _] _
            refine run_nil (blk_normal ?_)
            refine run_region rfl (fun _ _ h => h) ?_
            refine ops_val (ex_move rfl) ?_
            refine ops_val (ex_add rfl rfl (IntWalk.i64_in _ (by omega))) ?_
            refine ops_val (ex_assign rfl) ?_
            refine ops_nil ?_
            change Run _ _ _ _ [_, _, _, _, _, _, _, _, _, _, _, _, _, _, _, _, _, _, _, _, _, _, _, _, _, _, _, _, _, _, _, _, _, _, _, _, _, _, _, _, _, _, _, _, _, _, _, _, _, _, _, _, _, _, _, _, _, _, _, _, _, _, _, _, _, _, _, _, _, _, _, _, _, _, _, _, _, _, _, _, _, _, _, _, _, _, _, _, _, _, _, _, _, _, _, _, _, _, _, _, _, _, _, _, _, _, _, _, _, _, _, _, _, _, _, _, _, _, _, _, _, _, _, _, _, _, _, _, _, _, _, _, _, _, _, _, _, _, _, _, _, _, _, _, _, _, _, _, _, _, _, _, _, _, _, _, _, _, _, _, _, _, _, _, _, _, _, _, _, _, _, _, _, _, _, _, _, _, _, _, _, _, _, _, _, _, _] _
            refine run_nil (rnd_normal ?_)
            refine ⟨rfl, ?_⟩
            exact ⟨b.length - (iz + 1), by omega, iz + 1, _, cs.set (0 + iz) (.int .u8 99), rfl, (fn (fn (fn (fn (fs (fs (fn (fn (fn (fs (fn (fs (fs (fn (fn (fn (fn (fn (fn (fn (fn (fn (fn (fn (fn (fn (fn (fn (fn (fn (fn (fn (fn (fn (fn (fn (fn (fn (fn (fn (fn (fn (fn (fn (fn (fn (fn (fn (fn (fn (fn (fn (fn (fn (fn (fn (fn (fn (fn (fn (fn (fn (fn (fn (fn (fn (fn (fn (fn (fn (fn (fn (fn (fn (fn (fn (fn (fn (fn (fn (fn (fn (fn (fn (fn (fn (fn (fn (fn (fn (fn (fn (fn (fn (fn (fn (fn (fn (fn (fn (fn (fn (fn (fn (fn (fn (fn (fn (fn (fn (fn (fn (fn (fn (fn (fn (fn (fn (fn (fn (fn (fn (fn (fn (fn (fn (fn (fn (fn (fn (fn (fn (fn (fn (fn (fn (fn (fn (fn (fn (fn (fn (fn (fn (fn (fn (fn (fn (fn (fn (fn (fn (fn (fn (fn (fn (fn (fn (fn (fn (fn (fn (fn (fn (fn (fn (fn (fn (fn (fn (fn (fn (fn (fn (fn (fn (fn (fn (fn (fn (fn (fn (fn (fn (fn (fn (fn f0))))))))))))))))))))))))))))))))))))))))))))))))))))))))))))))))))))))))))))))))))))))))))))))))))))))))))))))))))))))))))))))))))))))))))))))))))))))))))))))))))))))))))))))))))))))))))), by omega, by omega, by rw [List.length_set]; exact hcl, H15⟩
          · skip
            refine ops_nil ?_
            change Run _ _ _ _ [_, _, _, _, _, _, _, _, _, _, _, _, _, _, _, _, _, _, _, _, _, _, _, _, _, _, _, _, _, _, _, _, _, _, _, _, _, _, _, _, _, _, _, _, _, _, _, _, _, _, _, _, _, _, _, _, _, _, _, _, _, _, _, _, _, _, _, _, _, _, _, _, _, _, _, _, _, _, _, _, _, _, _, _, _, _, _, _, _, _, _, _, _, _, _, _, _, _, _, _, _, _, _, _, _, _, _, _, _, _, _, _, _, _, _, _, _, _, _, _, _, _, _, _, _, _, _, _, _, _, _, _, _, _, _, _, _, _, _, _, _, _, _, _, _, _, _, _, _, _, _, _, _, _, _, _, _, _, _, _, _, _, _, _, _, _, _, _, _, _, _, _, _, _, _, _, _, _, _, _, _, _, _, _, _, _, _] _
            refine run_cond_false rfl ?_
            refine run_exit ?_
            refine rnd_exit ?_
            refine blk_exit ?_
            refine run_region rfl (fun _ _ h => h) ?_
            refine ops_val (ex_load ty3 rfl (H14.cell (i := 0) rfl rfl)) ?_
            refine ops_val (ex_add rfl rfl ((IntWalk.i64_in _ (by omega)).trans (show (((nn + k : Nat) : Int) + 1) = ((nn + (k + 1) : Nat) : Int) by omega))) ?_
            refine ops_store1 ty3 H14 0 rfl rfl rfl rfl (by first | decide | simp) rfl ?_
            intro w15 H15
            refine ops_nil ?_
            change Run _ _ _ _ [_, _, _, _, _, _, _, _, _, _, _, _, _, _, _, _, _, _, _, _, _, _, _, _, _, _, _, _, _, _, _, _, _, _, _, _, _, _, _, _, _, _, _, _, _, _, _, _, _, _, _, _, _, _, _, _, _, _, _, _, _, _, _, _, _, _, _, _, _, _, _, _, _, _, _, _, _, _, _, _, _, _, _, _, _, _, _, _, _, _, _, _, _, _, _, _, _, _, _, _, _, _, _, _, _, _, _, _, _, _, _, _, _, _, _, _, _, _, _, _, _, _, _, _, _, _, _, _, _, _, _, _, _, _, _, _, _, _, _, _, _, _, _, _, _, _, _, _, _, _, _, _, _, _, _, _, _, _, _, _, _, _, _, _, _, _, _, _, _, _, _, _, _, _, _, _, _, _, _, _, _, _, _, _, _, _, _] _
            refine run_nil (blk_normal ?_)
            refine run_nil ?_
            refine ⟨rfl, H15.noRows.wide (fun x hx => by
              rw [← bl_append]; exact hx), _, fun x hx => .inl (List.mem_append.2 (.inl hx)), rfl, HJ.step (H15.pick [0] (by decide)) (fun x hx => ?_)⟩
            have h1 : x ∈ bl [((some g9, 3, [.int .i64 ((nn : Nat) : Int)]) : Ent)] ∨ x ∈ bl [((gn, 5, u8s b ++ sn) : Ent)] := by rw [← List.mem_append, ← bl_append]; exact hx
            rcases h1 with h1 | h1
            · exact .inl h1
            · exact .inr (i6 x h1)
      · rintro Dm W1 O ⟨rfl, HJ⟩ hDm hDl
        have HB : Hp w0 W1 [] ((⟨mv s.m q1, D3, W3, s.k, ({ s.K with first := nn } : Bk)⟩ : Sx).rows ++ ([((some g4, 4, [.bool false]) : Ent), (some g5, 24, [.pointer (some ⟨gb, 0, none⟩)])] ++ [((some gx, 28, [.pointer (some ⟨(mv s.m q1).gv, 0, none⟩)]) : Ent), ((some g9, 3, [.int .i64 (((nn + W3.recs.length : Nat) : Int) : Int)]) : Ent)])) := (HR.callr [11] rfl HJ).pick [0, 1, 2, 3, 4, 5, 6, 7, 8, 9, 10, 12] (by decide)
        have hokD := hlG.ok.keepF (F' := ([((some g4, 4, [.bool false]) : Ent), (some g5, 24, [.pointer (some ⟨gb, 0, none⟩)])] ++ [((some gx, 28, [.pointer (some ⟨(mv s.m q1).gv, 0, none⟩)]) : Ent), ((some g9, 3, [.int .i64 (((nn + W3.recs.length : Nat) : Int) : Int)]) : Ent)])) HJ (fun x hx => by
          have h9 : x = g9 := by simpa [bl] using hx
          rw [h9]
          exact List.mem_filterMap.2 ⟨((some g9, 3, [.int .i64 ((nn : Nat) : Int)]) : Ent), List.mem_of_getElem? (i := 11) rfl, rfl⟩) (fun x hx => .inl (by rw [bl_append]; exact List.mem_append.2 (.inr hx)))
        have hlD : Live W1 (⟨mv s.m q1, D3, W3, s.k, ({ s.K with first := nn } : Bk)⟩ : Sx) ([((some g4, 4, [.bool false]) : Ent), (some g5, 24, [.pointer (some ⟨gb, 0, none⟩)])] ++ [((some gx, 28, [.pointer (some ⟨(mv s.m q1).gv, 0, none⟩)]) : Ent), ((some g9, 3, [.int .i64 (((nn + W3.recs.length : Nat) : Int) : Int)]) : Ent)]) 1024 (i + 1) := { hlG with ok := hokD }
        have hDn : Dm ∉ bl ((⟨mv s.m q1, D3, W3, s.k, ({ s.K with first := nn } : Bk)⟩ : Sx).rows ++ ([((some g4, 4, [.bool false]) : Ent), (some g5, 24, [.pointer (some ⟨gb, 0, none⟩)])] ++ [((some gx, 28, [.pointer (some ⟨(mv s.m q1).gv, 0, none⟩)]) : Ent), ((some g9, 3, [.int .i64 (((nn + W3.recs.length : Nat) : Int) : Int)]) : Ent)])) := fun hx => by obtain ⟨arr, T, z, hh⟩ := bl_cells HB Dm hx; rw [hDm] at hh; cases hh
        have HD0 := HB
        have HJ0 := HB.here
        refine run_nil (blk_normal ?_)
        refine run_seq ?_
        refine run_region rfl (fun _ _ h => h) ?_
        refine ops_val (v := .pointer (some ⟨s.k.gb, 0, none⟩)) (ex_load ty24 rfl (by rw [hgb]; exact HJ0.cell (i := 9) (o := 0) rfl rfl)) ?_
        refine ops_val (ex_nilCheck rfl) ?_
        refine ops_val (ex_fieldAddr fl31_1 rfl) ?_
        refine ops_val (ex_load ty28 rfl (HJ0.cell (i := 6) rfl rfl)) ?_
        refine nO187 ?_
        refine ops_call (ex_call gf17 rfl) ((Rn.records_any (mv s.m q1) D3 W3 _ HJ0.less.less.here hlD.ok.ok).d (fun _ _ hx => hx)) ?_
        rintro r w12 ⟨g12, cap, ys, sp, hr, hcap, hcs, hgn, hown, hsep, Hc⟩
        rw [hr]
        have hoz := hown.weak
        have hzc := hown.cells
        replace hDm := keepD hDm Hc (fun _ hx => by cases hx)
        have HBA : Hp w0 w12 [] (((⟨mv s.m q1, D3, W3, s.k, ({ s.K with first := nn } : Bk)⟩ : Sx).rows ++ ([((some g4, 4, [.bool false]) : Ent), (some g5, 24, [.pointer (some ⟨gb, 0, none⟩)])] ++ [((some gx, 28, [.pointer (some ⟨(mv s.m q1).gv, 0, none⟩)]) : Ent), ((some g9, 3, [.int .i64 (((nn + W3.recs.length : Nat) : Int) : Int)]) : Ent)])) ++ [((g12, 34, ys ++ sp) : Ent)]) := (HB.all HJ0).call0 Hc
        have hlA : Live w12 (⟨mv s.m q1, D3, W3, s.k, ({ s.K with first := nn } : Bk)⟩ : Sx) (([((some g4, 4, [.bool false]) : Ent), (some g5, 24, [.pointer (some ⟨gb, 0, none⟩)])] ++ [((some gx, 28, [.pointer (some ⟨(mv s.m q1).gv, 0, none⟩)]) : Ent), ((some g9, 3, [.int .i64 (((nn + W3.recs.length : Nat) : Int) : Int)]) : Ent)]) ++ (recAll ys).map fun g => ((some g, 0, []) : Ent)) 1024 (i + 1) := { hlD with ok := hlD.ok.keepF Hc (fun _ hb => by cases hb) (fun x hx => by
          rw [bl_append] at hx
          rcases List.mem_append.1 hx with h1 | h1
          · exact .inl (by rw [bl_append]; exact List.mem_append.2 (.inr h1))
          · obtain ⟨ee, he1, he2⟩ := List.mem_filterMap.1 h1
            obtain ⟨g, hg1, rfl⟩ := List.mem_map.1 he1
            simp only [Option.some.injEq] at he2
            subst he2
            exact .inr (hzc _ hg1).2) }
        have hw1s := HB.size
        obtain ⟨wA, hwA⟩ : ∃ x, x = w12 := ⟨_, rfl⟩
        rw [← hwA] at hoz hlA HBA hown hzc hDm ⊢
        have H12 : Hp wA wA (recAll ys) [] := (Hp.refl wA).wide (fun _ hx => by cases hx)
        refine ops_val (ex_assign rfl) ?_
        refine ops_nil ?_
        change Run _ _ _ _ [_, _, _, _, _, _, _, _, _, _, _, _, _, _, _, _, _, _, _, _, _, _, _, _, _, _, _, _, _, _, _, _, _, _, _, _, _, _, _, _, _, _, _, _, _, _, _, _, _, _, _, _, _, _, _, _, _, _, _, _, _, _, _, _, _, _, _, _, _, _, _, _, _, _, _, _, _, _, _, _, _, _, _, _, _, _, _, _, _, _, _, _, _, _, _, _, _, _, _, _, _, _, _, _, _, _, _, _, _, _, _, _, _, _, _, _, _, _, _, _, _, _, _, _, _, _, _, _, _, _, _, _, _, _, _, _, _, _, _, _, _, _, _, _, _, _, _, _, _, _, _, _, _, _, _, _, _, _, _, _, _, _, _, _, _, _, _, _, _, _, _, _, _, _, _, _, _, _, _, _, _, _, _, _, _, _, _] _
        refine run_seq ?_
        refine run_seq ?_
        refine run_region rfl (fun _ _ h => h) ?_
        refine ops_val (ex_assign rfl) ?_
        refine ops_nil ?_
        change Run _ _ _ _ [_, _, _, _, _, _, _, _, _, _, _, _, _, _, _, _, _, _, _, _, _, _, _, _, _, _, _, _, _, _, _, _, _, _, _, _, _, _, _, _, _, _, _, _, _, _, _, _, _, _, _, _, _, _, _, _, _, _, _, _, _, _, _, _, _, _, _, _, _, _, _, _, _, _, _, _, _, _, _, _, _, _, _, _, _, _, _, _, _, _, _, _, _, _, _, _, _, _, _, _, _, _, _, _, _, _, _, _, _, _, _, _, _, _, _, _, _, _, _, _, _, _, _, _, _, _, _, _, _, _, _, _, _, _, _, _, _, _, _, _, _, _, _, _, _, _, _, _, _, _, _, _, _, _, _, _, _, _, _, _, _, _, _, _, _, _, _, _, _, _, _, _, _, _, _, _, _, _, _, _, _, _, _, _, _, _, _] _
        refine run_block ?_
        refine run_loop (fun n l w => ∃ (i5 : Nat) (y5 : Int), W3.recs.length - i5 = n ∧ Fits [none, none, none, none, some (.pointer (some ⟨g4, 0, none⟩)), some (.pointer (some ⟨g5, 0, none⟩)), none, some (.int .i64 (nn : Int)), none, some (.pointer (some ⟨g9, 0, none⟩)), none, none, none, some (.slice (hd g12) W3.recs.length cap), some (.int .i64 y5), none, none, none, none, none, none, none, none, none, none, none, none, none, none, none, none, none, none, none, none, none, none, none, none, none, none, none, none, none, none, none, none, none, none, none, none, none, none, none, none, none, none, none, none, none, none, none, none, none, none, none, none, none, none, none, none, none, none, none, none, none, none, none, none, none, none, none, none, none, none, none, none, none, none, none, none, none, none, none, none, none, none, none, none, none, none, none, none, none, none, none, none, none, none, none, none, none, none, none, none, none, none, none, none, none, none, none, none, none, none, none, none, none, none, none, none, none, none, none, none, none, none, none, none, none, none, none, none, none, none, none, none, none, none, none, none, none, none, none, none, none, none, none, none, none, none, none, none, none, none, none, none, none, none, none, none, none, none, none, none, none, none, none, none, none, none, none, none, none, none, none, none] l ∧ y5 = (i5 : Int) ∧ i5 ≤ W3.recs.length ∧ Ownz w ys W3.recs (recAll ys) ∧ Hp wA w (recAll ys) []) (W3.recs.length) ?_ ?_
        · exact ⟨0, _, rfl, (fn (fn (fn (fn (fs (fs (fn (fs (fn (fs (fn (fn (fn (fs (fs (fn (fn (fn (fn (fn (fn (fn (fn (fn (fn (fn (fn (fn (fn (fn (fn (fn (fn (fn (fn (fn (fn (fn (fn (fn (fn (fn (fn (fn (fn (fn (fn (fn (fn (fn (fn (fn (fn (fn (fn (fn (fn (fn (fn (fn (fn (fn (fn (fn (fn (fn (fn (fn (fn (fn (fn (fn (fn (fn (fn (fn (fn (fn (fn (fn (fn (fn (fn (fn (fn (fn (fn (fn (fn (fn (fn (fn (fn (fn (fn (fn (fn (fn (fn (fn (fn (fn (fn (fn (fn (fn (fn (fn (fn (fn (fn (fn (fn (fn (fn (fn (fn (fn (fn (fn (fn (fn (fn (fn (fn (fn (fn (fn (fn (fn (fn (fn (fn (fn (fn (fn (fn (fn (fn (fn (fn (fn (fn (fn (fn (fn (fn (fn (fn (fn (fn (fn (fn (fn (fn (fn (fn (fn (fn (fn (fn (fn (fn (fn (fn (fn (fn (fn (fn (fn (fn (fn (fn (fn (fn (fn (fn (fn (fn (fn (fn (fn (fn (fn (fn (fn (fn f0))))))))))))))))))))))))))))))))))))))))))))))))))))))))))))))))))))))))))))))))))))))))))))))))))))))))))))))))))))))))))))))))))))))))))))))))))))))))))))))))))))))))))))))))))))))))))), rfl, Nat.zero_le _, hoz, H12⟩
        · rintro n l w13 ⟨i5, y5, rfl, hfit, rfl, hi5, hoz, H13⟩
          obtain ⟨j, rfl⟩ := hfit.open
          change Run _ _ _ _ [_, _, _, _, _, _, _, _, _, _, _, _, _, _, _, _, _, _, _, _, _, _, _, _, _, _, _, _, _, _, _, _, _, _, _, _, _, _, _, _, _, _, _, _, _, _, _, _, _, _, _, _, _, _, _, _, _, _, _, _, _, _, _, _, _, _, _, _, _, _, _, _, _, _, _, _, _, _, _, _, _, _, _, _, _, _, _, _, _, _, _, _, _, _, _, _, _, _, _, _, _, _, _, _, _, _, _, _, _, _, _, _, _, _, _, _, _, _, _, _, _, _, _, _, _, _, _, _, _, _, _, _, _, _, _, _, _, _, _, _, _, _, _, _, _, _, _, _, _, _, _, _, _, _, _, _, _, _, _, _, _, _, _, _, _, _, _, _, _, _, _, _, _, _, _, _, _, _, _, _, _, _, _, _, _, _, _] _
          clear hfit
          refine run_seq ?_
          refine run_seq ?_
          refine run_region rfl (fun _ _ h => h) ?_
          refine ops_val (ex_move rfl) ?_
          refine ops_val (ex_move rfl) ?_
          refine ops_val (ex_len_slice Try.underlying29 rfl) ?_
          refine ops_test (ex_lss rfl rfl) (fun hp125 => ?_) (fun hp125 => ?_)
          · have hi5l : i5 < W3.recs.length := by omega
            obtain ⟨ge, ce, hye, hyn, _⟩ := hoz.own i5 hi5l
            obtain ⟨gr, rfl⟩ := own_some HBA (i := 12) rfl (by omega)
            refine ops_nil ?_
            change Run _ _ _ _ [_, _, _, _, _, _, _, _, _, _, _, _, _, _, _, _, _, _, _, _, _, _, _, _, _, _, _, _, _, _, _, _, _, _, _, _, _, _, _, _, _, _, _, _, _, _, _, _, _, _, _, _, _, _, _, _, _, _, _, _, _, _, _, _, _, _, _, _, _, _, _, _, _, _, _, _, _, _, _, _, _, _, _, _, _, _, _, _, _, _, _, _, _, _, _, _, _, _, _, _, _, _, _, _, _, _, _, _, _, _, _, _, _, _, _, _, _, _, _, _, _, _, _, _, _, _, _, _, _, _, _, _, _, _, _, _, _, _, _, _, _, _, _, _, _, _, _, _, _, _, _, _, _, _, _, _, _, _, _, _, _, _, _, _, _, _, _, _, _, _, _, _, _, _, _, _, _, _, _, _, _, _, _, _, _, _, _] _
            refine run_cond_true rfl ?_
            refine run_skip ?_
            refine run_seq ?_
            refine run_block ?_
            refine run_seq ?_
            refine run_region rfl (fun _ _ h => h) ?_
            refine ops_val (ex_assign rfl) ?_
            refine ops_nil ?_
            change Run _ _ _ _ [_, _, _, _, _, _, _, _, _, _, _, _, _, _, _, _, _, _, _, _, _, _, _, _, _, _, _, _, _, _, _, _, _, _, _, _, _, _, _, _, _, _, _, _, _, _, _, _, _, _, _, _, _, _, _, _, _, _, _, _, _, _, _, _, _, _, _, _, _, _, _, _, _, _, _, _, _, _, _, _, _, _, _, _, _, _, _, _, _, _, _, _, _, _, _, _, _, _, _, _, _, _, _, _, _, _, _, _, _, _, _, _, _, _, _, _, _, _, _, _, _, _, _, _, _, _, _, _, _, _, _, _, _, _, _, _, _, _, _, _, _, _, _, _, _, _, _, _, _, _, _, _, _, _, _, _, _, _, _, _, _, _, _, _, _, _, _, _, _, _, _, _, _, _, _, _, _, _, _, _, _, _, _, _, _, _, _] _
            refine run_block ?_
            refine run_loop (fun n l w => ∃ (i6 : Nat) (y6 : Int), W3.recs[i5].length - i6 = n ∧ Fits [none, none, none, none, some (.pointer (some ⟨g4, 0, none⟩)), some (.pointer (some ⟨g5, 0, none⟩)), none, some (.int .i64 (nn : Int)), none, some (.pointer (some ⟨g9, 0, none⟩)), none, none, none, some (.slice (hd (some gr)) W3.recs.length cap), some (.int .i64 (i5 : Int)), some (.int .i64 y6), none, none, none, none, none, none, none, none, none, none, none, none, none, none, none, none, none, none, none, none, none, none, none, none, none, none, none, none, none, none, none, none, none, none, none, none, none, none, none, none, none, none, none, none, none, none, none, none, none, none, none, none, none, none, none, none, none, none, none, none, none, none, none, none, none, none, none, none, none, none, none, none, none, none, none, none, none, none, none, none, none, none, none, none, none, none, none, none, none, none, none, none, none, none, none, none, none, none, none, none, none, none, none, none, none, none, none, none, none, none, none, none, none, none, none, none, none, none, none, none, none, none, none, none, none, none, none, none, none, none, none, none, none, none, none, none, none, none, none, none, none, none, none, none, none, none, none, none, none, none, none, none, none, none, none, none, none, none, none, none, none, none, none, none, none, none, none, none, none, none, none] l ∧ y6 = (i6 : Int) ∧ i6 ≤ W3.recs[i5].length ∧ Ownz w ys W3.recs (recAll ys) ∧ Hp wA w (recAll ys) []) (W3.recs[i5].length) ?_ ?_
            · exact ⟨0, _, rfl, (fn (fn (fn (fn (fs (fs (fn (fs (fn (fs (fn (fn (fn (fs (fs (fs (fn (fn (fn (fn (fn (fn (fn (fn (fn (fn (fn (fn (fn (fn (fn (fn (fn (fn (fn (fn (fn (fn (fn (fn (fn (fn (fn (fn (fn (fn (fn (fn (fn (fn (fn (fn (fn (fn (fn (fn (fn (fn (fn (fn (fn (fn (fn (fn (fn (fn (fn (fn (fn (fn (fn (fn (fn (fn (fn (fn (fn (fn (fn (fn (fn (fn (fn (fn (fn (fn (fn (fn (fn (fn (fn (fn (fn (fn (fn (fn (fn (fn (fn (fn (fn (fn (fn (fn (fn (fn (fn (fn (fn (fn (fn (fn (fn (fn (fn (fn (fn (fn (fn (fn (fn (fn (fn (fn (fn (fn (fn (fn (fn (fn (fn (fn (fn (fn (fn (fn (fn (fn (fn (fn (fn (fn (fn (fn (fn (fn (fn (fn (fn (fn (fn (fn (fn (fn (fn (fn (fn (fn (fn (fn (fn (fn (fn (fn (fn (fn (fn (fn (fn (fn (fn (fn (fn (fn (fn (fn (fn (fn (fn (fn (fn (fn (fn (fn (fn (fn (fn f0))))))))))))))))))))))))))))))))))))))))))))))))))))))))))))))))))))))))))))))))))))))))))))))))))))))))))))))))))))))))))))))))))))))))))))))))))))))))))))))))))))))))))))))))))))))))))), rfl, Nat.zero_le _, hoz, H13⟩
            · rintro n l w14 ⟨i6, y6, rfl, hfit, rfl, hi6, hoz, H14⟩
              obtain ⟨j, rfl⟩ := hfit.open
              change Run _ _ _ _ [_, _, _, _, _, _, _, _, _, _, _, _, _, _, _, _, _, _, _, _, _, _, _, _, _, _, _, _, _, _, _, _, _, _, _, _, _, _, _, _, _, _, _, _, _, _, _, _, _, _, _, _, _, _, _, _, _, _, _, _, _, _, _, _, _, _, _, _, _, _, _, _, _, _, _, _, _, _, _, _, _, _, _, _, _, _, _, _, _, _, _, _, _, _, _, _, _, _, _, _, _, _, _, _, _, _, _, _, _, _, _, _, _, _, _, _, _, _, _, _, _, _, _, _, _, _, _, _, _, _, _, _, _, _, _, _, _, _, _, _, _, _, _, _, _, _, _, _, _, _, _, _, _, _, _, _, _, _, _, _, _, _, _, _, _, _, _, _, _, _, _, _, _, _, _, _, _, _, _, _, _, _, _, _, _, _, _] _
              clear hfit
              refine run_seq ?_
              refine run_seq ?_
              refine run_region rfl (fun _ _ h => h) ?_
              refine ops_val (ex_move rfl) ?_
              refine ops_val (ex_move rfl) ?_
              refine ops_val (ex_move rfl) ?_
              refine ops_val (ex_idx Try.underlying29 ty34 rfl rfl rfl hi5l (Nat.mul_one _)) ?_
              refine nO187 ?_
              refine ops_val (ex_load ty34 rfl ((Rd.to (HBA.rd (i := 12) (o := some gr) (xs := ys) (sp := sp) rfl (by rw [hown.len, Nat.mul_one]) (by decide)) H14 (fun p hp hx => by simp only [hd, Option.map_some, Option.some.injEq] at hp; subst hp; exact hsep _ hx (by simp [bl]))).cells _ rfl i5 _ hye)) ?_
              refine ops_val (ex_len_slice Try.underlying34 rfl) ?_
              refine ops_test (ex_lss rfl rfl) (fun hp134 => ?_) (fun hp134 => ?_)
              · have hi6l : i6 < W3.recs[i5].length := by omega
                have hrl := hlA.ok.ok.long _ (List.getElem_mem hi5l)
                obtain ⟨ge2, ce2, hye2, hyn2, hy2⟩ := hoz.own i5 hi5l
                obtain ⟨rfl, rfl⟩ : ge2 = ge ∧ ce2 = ce := by
                  rw [hye] at hye2
                  simp only [Option.some.injEq, Value.slice.injEq, true_and] at hye2
                  obtain ⟨h1, h2⟩ := hye2
                  refine ⟨?_, h2.symm⟩
                  cases ge <;> cases ge2 <;> simp_all [hd]
                obtain ⟨gz, rfl⟩ : ∃ gz, ge2 = some gz := by
                  cases ge2 with
                  | none => have := hyn2 rfl; omega
                  | some gz => exact ⟨gz, rfl⟩
                obtain ⟨hgzm, cz, hcz, hczl⟩ := hy2 gz rfl
                refine ops_nil ?_
                change Run _ _ _ _ [_, _, _, _, _, _, _, _, _, _, _, _, _, _, _, _, _, _, _, _, _, _, _, _, _, _, _, _, _, _, _, _, _, _, _, _, _, _, _, _, _, _, _, _, _, _, _, _, _, _, _, _, _, _, _, _, _, _, _, _, _, _, _, _, _, _, _, _, _, _, _, _, _, _, _, _, _, _, _, _, _, _, _, _, _, _, _, _, _, _, _, _, _, _, _, _, _, _, _, _, _, _, _, _, _, _, _, _, _, _, _, _, _, _, _, _, _, _, _, _, _, _, _, _, _, _, _, _, _, _, _, _, _, _, _, _, _, _, _, _, _, _, _, _, _, _, _, _, _, _, _, _, _, _, _, _, _, _, _, _, _, _, _, _, _, _, _, _, _, _, _, _, _, _, _, _, _, _, _, _, _, _, _, _, _, _, _] _
                refine run_cond_true rfl ?_
                refine run_skip ?_
                refine run_seq ?_
                refine run_block ?_
                refine run_region rfl (fun _ _ h => h) ?_
                refine ops_val (ex_move rfl) ?_
                refine ops_val (ex_move rfl) ?_
                refine ops_val (ex_idx Try.underlying29 ty34 rfl rfl rfl hi5l (Nat.mul_one _)) ?_
                refine ops_val (ex_load ty34 rfl ((Rd.to (HBA.rd (i := 12) (o := some gr) (xs := ys) (sp := sp) rfl (by rw [hown.len, Nat.mul_one]) (by decide)) H14 (fun p hp hx => by simp only [hd, Option.map_some, Option.some.injEq] at hp; subst hp; exact hsep _ hx (by simp [bl]))).cells _ rfl i5 _ hye)) ?_
                refine nO187 ?_
                refine ops_val (ex_move rfl) ?_
                refine ops_val (ex_idx Try.underlying34 ty5 rfl rfl rfl hi6l (Nat.mul_one _)) ?_
                rw [addz gz]
                refine ops_store1 ty5 (Hp.old hcz) 0 rfl rfl rfl rfl (by omega) rfl ?_
                intro w15 Hst
                replace hoz := hoz.store hcz rfl Hst (by rw [List.length_set])
                have H15 := H14.past Hst.noRows (fun b hb => .inl (by rw [List.mem_singleton.1 hb]; exact hgzm)) (fun _ hb => by cases hb)
                refine ops_nil ?_
                change Run _ _ _ _ [_, _, _, _, _, _, _, _, _, _, _, _, _, _, _, _, _, _, _, _, _, _, _, _, _, _, _, _, _, _, _, _, _, _, _, _, _, _, _, _, _, _, _, _, _, _, _, _, _, _, _, _, _, _, _, _, _, _, _, _, _, _, _, _, _, _, _, _, _, _, _, _, _, _, _, _, _, _, _, _, _, _, _, _, _, _, _, _, _, _, _, _, _, _, _, _, _, _, _, _, _, _, _, _, _, _, _, _, _, _, _, _, _, _, _, _, _, _, _, _, _, _, _, _, _, _, _, _, _, _, _, _, _, _, _, _, _, _, _, _, _, _, _, _, _, _, _, _, _, _, _, _, _, _, _, _, _, _, _, _, _, _, _, _, _, _, _, _, _, _, _, _, _, _, _, _, _, _, _, _, _, _, _, _, _, _, _] _
                refine run_nil (blk_normal ?_)
                refine run_region rfl (fun _ _ h => h) ?_
                refine ops_val (ex_move rfl) ?_
                refine ops_val (ex_add rfl rfl (IntWalk.i64_in _ (by omega))) ?_
                refine ops_val (ex_assign rfl) ?_
                refine ops_nil ?_
                change Run _ _ _ _ [_, _, _, _, _, _, _, _, _, _, _, _, _, _, _, _, _, _, _, _, _, _, _, _, _, _, _, _, _, _, _, _, _, _, _, _, _, _, _, _, _, _, _, _, _, _, _, _, _, _, _, _, _, _, _, _, _, _, _, _, _, _, _, _, _, _, _, _, _, _, _, _, _, _, _, _, _, _, _, _, _, _, _, _, _, _, _, _, _, _, _, _, _, _, _, _, _, _, _, _, _, _, _, _, _, _, _, _, _, _, _, _, _, _, _, _, _, _, _, _, _, _, _, _, _, _, _, _, _, _, _, _, _, _, _, _, _, _, _, _, _, _, _, _, _, _, _, _, _, _, _, _, _, _, _, _, _, _, _, _, _, _, _, _, _, _, _, _, _, _, _, _, _, _, _, _, _, _, _, _, _, _, _, _, _, _, _] _
                refine run_nil (rnd_normal ?_)
                refine ⟨rfl, ?_⟩
                exact ⟨W3.recs[i5].length - (i6 + 1), by omega, i6 + 1, _, rfl, (fn (fn (fn (fn (fs (fs (fn (fs (fn (fs (fn (fn (fn (fs (fs (fs (fn (fn (fn (fn (fn (fn (fn (fn (fn (fn (fn (fn (fn (fn (fn (fn (fn (fn (fn (fn (fn (fn (fn (fn (fn (fn (fn (fn (fn (fn (fn (fn (fn (fn (fn (fn (fn (fn (fn (fn (fn (fn (fn (fn (fn (fn (fn (fn (fn (fn (fn (fn (fn (fn (fn (fn (fn (fn (fn (fn (fn (fn (fn (fn (fn (fn (fn (fn (fn (fn (fn (fn (fn (fn (fn (fn (fn (fn (fn (fn (fn (fn (fn (fn (fn (fn (fn (fn (fn (fn (fn (fn (fn (fn (fn (fn (fn (fn (fn (fn (fn (fn (fn (fn (fn (fn (fn (fn (fn (fn (fn (fn (fn (fn (fn (fn (fn (fn (fn (fn (fn (fn (fn (fn (fn (fn (fn (fn (fn (fn (fn (fn (fn (fn (fn (fn (fn (fn (fn (fn (fn (fn (fn (fn (fn (fn (fn (fn (fn (fn (fn (fn (fn (fn (fn (fn (fn (fn (fn (fn (fn (fn (fn (fn (fn (fn (fn (fn (fn (fn (fn f0))))))))))))))))))))))))))))))))))))))))))))))))))))))))))))))))))))))))))))))))))))))))))))))))))))))))))))))))))))))))))))))))))))))))))))))))))))))))))))))))))))))))))))))))))))))))))), by omega, by omega, hoz, H15⟩
              · skip
                refine ops_nil ?_
                change Run _ _ _ _ [_, _, _, _, _, _, _, _, _, _, _, _, _, _, _, _, _, _, _, _, _, _, _, _, _, _, _, _, _, _, _, _, _, _, _, _, _, _, _, _, _, _, _, _, _, _, _, _, _, _, _, _, _, _, _, _, _, _, _, _, _, _, _, _, _, _, _, _, _, _, _, _, _, _, _, _, _, _, _, _, _, _, _, _, _, _, _, _, _, _, _, _, _, _, _, _, _, _, _, _, _, _, _, _, _, _, _, _, _, _, _, _, _, _, _, _, _, _, _, _, _, _, _, _, _, _, _, _, _, _, _, _, _, _, _, _, _, _, _, _, _, _, _, _, _, _, _, _, _, _, _, _, _, _, _, _, _, _, _, _, _, _, _, _, _, _, _, _, _, _, _, _, _, _, _, _, _, _, _, _, _, _, _, _, _, _, _] _
                refine run_cond_false rfl ?_
                refine run_exit ?_
                refine rnd_exit ?_
                refine blk_exit ?_
                refine run_nil (blk_normal ?_)
                refine run_region rfl (fun _ _ h => h) ?_
                refine ops_val (ex_move rfl) ?_
                refine ops_val (ex_add rfl rfl (IntWalk.i64_in _ (by omega))) ?_
                refine ops_val (ex_assign rfl) ?_
                refine ops_nil ?_
                change Run _ _ _ _ [_, _, _, _, _, _, _, _, _, _, _, _, _, _, _, _, _, _, _, _, _, _, _, _, _, _, _, _, _, _, _, _, _, _, _, _, _, _, _, _, _, _, _, _, _, _, _, _, _, _, _, _, _, _, _, _, _, _, _, _, _, _, _, _, _, _, _, _, _, _, _, _, _, _, _, _, _, _, _, _, _, _, _, _, _, _, _, _, _, _, _, _, _, _, _, _, _, _, _, _, _, _, _, _, _, _, _, _, _, _, _, _, _, _, _, _, _, _, _, _, _, _, _, _, _, _, _, _, _, _, _, _, _, _, _, _, _, _, _, _, _, _, _, _, _, _, _, _, _, _, _, _, _, _, _, _, _, _, _, _, _, _, _, _, _, _, _, _, _, _, _, _, _, _, _, _, _, _, _, _, _, _, _, _, _, _, _] _
                refine run_nil (rnd_normal ?_)
                refine ⟨rfl, ?_⟩
                exact ⟨W3.recs.length - (i5 + 1), by omega, i5 + 1, _, rfl, (fn (fn (fn (fn (fs (fs (fn (fs (fn (fs (fn (fn (fn (fs (fs (fn (fn (fn (fn (fn (fn (fn (fn (fn (fn (fn (fn (fn (fn (fn (fn (fn (fn (fn (fn (fn (fn (fn (fn (fn (fn (fn (fn (fn (fn (fn (fn (fn (fn (fn (fn (fn (fn (fn (fn (fn (fn (fn (fn (fn (fn (fn (fn (fn (fn (fn (fn (fn (fn (fn (fn (fn (fn (fn (fn (fn (fn (fn (fn (fn (fn (fn (fn (fn (fn (fn (fn (fn (fn (fn (fn (fn (fn (fn (fn (fn (fn (fn (fn (fn (fn (fn (fn (fn (fn (fn (fn (fn (fn (fn (fn (fn (fn (fn (fn (fn (fn (fn (fn (fn (fn (fn (fn (fn (fn (fn (fn (fn (fn (fn (fn (fn (fn (fn (fn (fn (fn (fn (fn (fn (fn (fn (fn (fn (fn (fn (fn (fn (fn (fn (fn (fn (fn (fn (fn (fn (fn (fn (fn (fn (fn (fn (fn (fn (fn (fn (fn (fn (fn (fn (fn (fn (fn (fn (fn (fn (fn (fn (fn (fn (fn (fn (fn (fn (fn (fn (fn f0))))))))))))))))))))))))))))))))))))))))))))))))))))))))))))))))))))))))))))))))))))))))))))))))))))))))))))))))))))))))))))))))))))))))))))))))))))))))))))))))))))))))))))))))))))))))))), by omega, by omega, hoz, H14⟩
          · skip
            refine ops_nil ?_
            change Run _ _ _ _ [_, _, _, _, _, _, _, _, _, _, _, _, _, _, _, _, _, _, _, _, _, _, _, _, _, _, _, _, _, _, _, _, _, _, _, _, _, _, _, _, _, _, _, _, _, _, _, _, _, _, _, _, _, _, _, _, _, _, _, _, _, _, _, _, _, _, _, _, _, _, _, _, _, _, _, _, _, _, _, _, _, _, _, _, _, _, _, _, _, _, _, _, _, _, _, _, _, _, _, _, _, _, _, _, _, _, _, _, _, _, _, _, _, _, _, _, _, _, _, _, _, _, _, _, _, _, _, _, _, _, _, _, _, _, _, _, _, _, _, _, _, _, _, _, _, _, _, _, _, _, _, _, _, _, _, _, _, _, _, _, _, _, _, _, _, _, _, _, _, _, _, _, _, _, _, _, _, _, _, _, _, _, _, _, _, _, _] _
            refine run_cond_false rfl ?_
            refine run_exit ?_
            refine rnd_exit ?_
            refine blk_exit ?_
            refine run_seq ?_
            refine run_region rfl (fun _ _ h => h) ?_
            have HB : Hp w0 w13 [] ((⟨mv s.m q1, D3, W3, s.k, ({ s.K with first := nn } : Bk)⟩ : Sx).rows ++ ([((some g4, 4, [.bool false]) : Ent), (some g5, 24, [.pointer (some ⟨gb, 0, none⟩)])] ++ [((some gx, 28, [.pointer (some ⟨(mv s.m q1).gv, 0, none⟩)]) : Ent), ((some g9, 3, [.int .i64 (((nn + W3.recs.length : Nat) : Int) : Int)]) : Ent)])) := HBA.less.past H13 (fun b hb => .inr (by have := (hzc b hb).2; omega)) (fun x hx hx2 => by
              have h1 := lt_here HD0 x hx
              have h2 := (hzc x hx2).2
              omega)
            replace hDm := keepD hDm H13 (fun x hx => (hzc x hx).1)
            have hlE : Live w13 (⟨mv s.m q1, D3, W3, s.k, ({ s.K with first := nn } : Bk)⟩ : Sx) ([((some g4, 4, [.bool false]) : Ent), (some g5, 24, [.pointer (some ⟨gb, 0, none⟩)])] ++ [((some gx, 28, [.pointer (some ⟨(mv s.m q1).gv, 0, none⟩)]) : Ent), ((some g9, 3, [.int .i64 (((nn + W3.recs.length : Nat) : Int) : Int)]) : Ent)]) 1024 (i + 1) := Live.lessF (G := (recAll ys).map fun g => ((some g, 0, []) : Ent)) { hlA with ok := hlA.ok.keep H13 (fun x hx => bl_inr (bl_inr (List.mem_filterMap.2 ⟨_, List.mem_map.2 ⟨x, hx, rfl⟩, rfl⟩))) }
            replace H13 := HB.here
            refine ops_val (v := .pointer (some ⟨s.k.gb, 0, none⟩)) (ex_load ty24 rfl (by rw [hgb]; exact H13.cell (i := 9) (o := 0) rfl rfl)) ?_
            refine ops_val (ex_nilCheck rfl) ?_
            refine ops_val (ex_fieldAddr fl31_0 rfl) ?_
            refine ops_val (ex_load ty27 rfl (H13.cell (i := 6) rfl rfl)) ?_
            refine nO187 ?_
            have hw3 : D3.wait.length ≤ 300 * (i + 1) := hlE.wait
            refine ops_call (ex_call gf22 rfl) (fork_any (mv s.m q1).gd (mv s.m q1).gk (mv s.m q1).gw (mv s.m q1).cw (mv s.m q1).sp D3 _ HB.less.less.less.here hlE.ok.ok.d (by omega)) ?_
            rintro r w14 ⟨gf, gq, gv, cv, sv, Df, hr, f1, f2, f3, f4, f5, Hd⟩
            rw [hr]
            have HF : Hp w0 w14 [] (((⟨mv s.m q1, D3, W3, s.k, ({ s.K with first := nn } : Bk)⟩ : Sx).rows ++ ([((some g4, 4, [.bool false]) : Ent), (some g5, 24, [.pointer (some ⟨gb, 0, none⟩)])] ++ [((some gx, 28, [.pointer (some ⟨(mv s.m q1).gv, 0, none⟩)]) : Ent), ((some g9, 3, [.int .i64 (((nn + W3.recs.length : Nat) : Int) : Int)]) : Ent)])) ++ dRows gf gq gv cv sv Df) := (HB.callr [0, 1, 2] rfl Hd).pick [12, 13, 14, 3, 4, 5, 6, 7, 8, 9, 10, 11, 15, 16, 17] (by decide)
            have hsubD : ∀ x ∈ bl (dRows (mv s.m q1).gd (mv s.m q1).gk (mv s.m q1).gw (mv s.m q1).cw (mv s.m q1).sp D3), x ∈ bl ((⟨mv s.m q1, D3, W3, s.k, ({ s.K with first := nn } : Bk)⟩ : Sx).rows ++ ([((some g4, 4, [.bool false]) : Ent), (some g5, 24, [.pointer (some ⟨gb, 0, none⟩)])] ++ [((some gx, 28, [.pointer (some ⟨(mv s.m q1).gv, 0, none⟩)]) : Ent), ((some g9, 3, [.int .i64 (((nn + W3.recs.length : Nat) : Int) : Int)]) : Ent)])) := fun x hx => by
              obtain ⟨ee, he1, he2⟩ := List.mem_filterMap.1 hx
              exact List.mem_filterMap.2 ⟨ee, List.mem_append.2 (.inl (List.mem_append.2 (.inl (List.mem_append.2 (.inl he1))))), he2⟩
            have hlK : Live w14 (⟨mv s.m q1, D3, W3, s.k, ({ s.K with first := nn } : Bk)⟩ : Sx) (([((some g4, 4, [.bool false]) : Ent), (some g5, 24, [.pointer (some ⟨gb, 0, none⟩)])] ++ [((some gx, 28, [.pointer (some ⟨(mv s.m q1).gv, 0, none⟩)]) : Ent), ((some g9, 3, [.int .i64 (((nn + W3.recs.length : Nat) : Int) : Int)]) : Ent)]) ++ dRows gf gq gv cv sv Df) 1024 (i + 1) := { hlE with ok := hlE.ok.keepF Hd hsubD (fun x hx => by
              rw [bl_append] at hx
              rcases List.mem_append.1 hx with h1 | h1
              · exact .inl (by rw [bl_append]; exact List.mem_append.2 (.inr h1))
              · rcases bl_place Hd x (by rw [bl_append]; exact List.mem_append.2 (.inr h1)) with h2 | h2
                · exact .inl (hsubD x h2)
                · exact .inr h2) }
            replace hDm := keepD hDm Hd (fun x hx => bl_cells HB x (hsubD x hx))
            have H14 := HF.here
            obtain ⟨sp0, hlg⟩ := hlE.lg
            have hlgf : Lg Df.show Df.kept.length W3 sp0 := by
              have e1 : Df.show = D3.show := funext fun i => by unfold Dk.show; rw [f1, f2]
              rw [e1, f1]; exact hlg
            have hup3 : D3.down = false := hlE.up
            have htu3 : W3.turn ≤ i + 1 := hlE.turn
            refine ops_call (ex_call gf18 rfl) (openLg_any gf gq gv cv sv Df _ (H14.pick [12, 13, 14] (by decide)).here f5 (by rw [f3]; exact hup3) (by rw [f2]; omega) W3 sp0 hlgf htd3 (by omega) (by omega)) ?_
            rintro r w15 ⟨m9, W9, hr, hok9, Hc, hrc9, hfs9⟩
            rw [hr]
            have HO : Hp w0 w15 [] (((⟨mv s.m q1, D3, W3, s.k, ({ s.K with first := nn } : Bk)⟩ : Sx).rows ++ ([((some g4, 4, [.bool false]) : Ent), (some g5, 24, [.pointer (some ⟨gb, 0, none⟩)])] ++ [((some gx, 28, [.pointer (some ⟨(mv s.m q1).gv, 0, none⟩)]) : Ent), ((some g9, 3, [.int .i64 (((nn + W3.recs.length : Nat) : Int) : Int)]) : Ent)])) ++ wRows m9 Df W9) := (HF.callr [12, 13, 14] rfl Hc).pick [0, 1, 2, 3, 4, 5, 6, 7, 8, 9, 10, 11, 15, 16, 17, 18, 19, 20] (by decide)
            replace hlE : Live w15 (⟨mv s.m q1, D3, W3, s.k, ({ s.K with first := nn } : Bk)⟩ : Sx) ([((some g4, 4, [.bool false]) : Ent), (some g5, 24, [.pointer (some ⟨gb, 0, none⟩)])] ++ [((some gx, 28, [.pointer (some ⟨(mv s.m q1).gv, 0, none⟩)]) : Ent), ((some g9, 3, [.int .i64 (((nn + W3.recs.length : Nat) : Int) : Int)]) : Ent)]) 1024 (i + 1) := { hlK with ok := hlK.ok.keepF Hc (fun x hx => bl_inr (bl_inr hx)) (fun x hx => .inl (bl_inr (bl_inl hx))) }
            replace hDm := keepD hDm Hc (fun x hx => bl_cells HF x (by rw [bl_append]; exact List.mem_append.2 (.inr hx)))
            have H15 := HO.here
            refine ops_val (ex_move rfl) ?_
            refine ops_val (ex_extract rfl rfl) ?_
            refine nO187 ?_
            refine ops_val (ex_extract rfl rfl) ?_
            refine ops_val (ex_assign rfl) ?_
            refine ops_val (ex_assign rfl) ?_
            refine ops_nil ?_
            change Run _ _ _ _ [_, _, _, _, _, _, _, _, _, _, _, _, _, _, _, _, _, _, _, _, _, _, _, _, _, _, _, _, _, _, _, _, _, _, _, _, _, _, _, _, _, _, _, _, _, _, _, _, _, _, _, _, _, _, _, _, _, _, _, _, _, _, _, _, _, _, _, _, _, _, _, _, _, _, _, _, _, _, _, _, _, _, _, _, _, _, _, _, _, _, _, _, _, _, _, _, _, _, _, _, _, _, _, _, _, _, _, _, _, _, _, _, _, _, _, _, _, _, _, _, _, _, _, _, _, _, _, _, _, _, _, _, _, _, _, _, _, _, _, _, _, _, _, _, _, _, _, _, _, _, _, _, _, _, _, _, _, _, _, _, _, _, _, _, _, _, _, _, _, _, _, _, _, _, _, _, _, _, _, _, _, _, _, _, _, _, _] _
            refine run_seq ?_
            refine run_mixZ 35 [(true, 0), (true, 1), (true, 2), (true, 3), (true, 4), (true, 5), (true, 6), (true, 7), (false, 8), (true, 9), (true, 10), (true, 11), (true, 12), (true, 13), (true, 14), (true, 15), (true, 16), (true, 17), (true, 18), (true, 19), (true, 21), (false, 20), (true, 22), (true, 23), (true, 24), (true, 25), (true, 27), (true, 28), (true, 29), (true, 30), (true, 31), (true, 32), (false, 26), (false, 33), (true, 34), (false, 35)] H15 [6, 8, 9, 11] mixed (by decide) (by kernel_rfl) rfl ?_
            rintro w16 hw16
            have H16 := Hp.drew H15; rw [← hw16] at H16
            replace hok9 : WOk w16 m9 Df W9 := hok9.keep0 (es := []) (by rw [‹w16 = _›]; exact Hp.drewW _)
            replace hlE : Live w16 (⟨mv s.m q1, D3, W3, s.k, ({ s.K with first := nn } : Bk)⟩ : Sx) ([((some g4, 4, [.bool false]) : Ent), (some g5, 24, [.pointer (some ⟨gb, 0, none⟩)])] ++ [((some gx, 28, [.pointer (some ⟨(mv s.m q1).gv, 0, none⟩)]) : Ent), ((some g9, 3, [.int .i64 (((nn + W3.recs.length : Nat) : Int) : Int)]) : Ent)]) 1024 (i + 1) := hlE.keep0 (es := []) (by rw [‹w16 = _›]; exact Hp.drewW _)
            refine mixz_p rfl ?_
            refine mix1_val (fun wz hz => ex_load ty3 rfl (hz.cell (i := 3) rfl rfl)) ?_
            refine mixz_p rfl ?_
            refine mix1_val (v := .pointer (some ⟨s.k.gb, 0, none⟩)) (fun wz hz => ex_load ty24 rfl (by rw [hgb]; exact hz.cell (i := 2) (o := 0) rfl rfl)) ?_
            refine mixz_p rfl ?_
            refine mix1_val (fun wz hz => ex_nilCheck rfl) ?_
            refine mixz_p rfl ?_
            refine mix1_val (fun wz hz => ex_fieldAddr fl31_3 rfl) ?_
            refine nZ187 ?_
            refine mixz_p rfl ?_
            refine mix1_val (fun wz hz => ex_load ty3 rfl (hz.cell (i := 0) rfl rfl)) ?_
            refine mixz_p rfl ?_
            refine mix1_true (fun wz hz => ex_eql rfl rfl) (by show (((nn + W3.recs.length : Nat)) : Int) = (s.K.all.length : Int); omega) ?_
            refine mixz_p rfl ?_
            refine mix1_val (fun wz hz => ex_move rfl) ?_
            refine mixz_p rfl ?_
            refine mix1_yes rfl ?_
            refine mix1_val (v := .pointer (some ⟨s.k.gb, 0, none⟩)) (fun wz hz => ex_load ty24 rfl (by rw [hgb]; exact hz.cell (i := 2) (o := 0) rfl rfl)) ?_
            refine nZ187 ?_
            refine mixz_o rfl ?_
            refine ops_yes rfl ?_
            have HX := HO.all H16
            refine ops_call_val (ex_call gf12 rfl) (agree_any (mv s.m q1) D3 W3 s.k ({ s.K with first := nn } : Bk) _ HX.less.less.here hlE.ok.less hag2) ?_
            intro w17 Hd
            replace hok9 := hok9.keep0 Hd
            replace hlE := hlE.keep0 Hd
            have H17 := H16.callN Hd
            refine ops_nil ?_
            refine ⟨fun hne => H17.pick [6, 8, 9, 11] (by decide), ?_⟩
            refine nZ187 ?_
            refine mixz_p rfl ?_
            refine mix1_val (fun wz hz => ex_pick_t rfl rfl) ?_
            refine mixz_p rfl ?_
            refine mix1_val (fun wz hz => ex_move rfl) ?_
            refine mixz_p rfl ?_
            refine mix1_yes rfl ?_
            refine mix1_val (fun wz hz => ex_move rfl) ?_
            refine mixz_p rfl ?_
            refine mix1_yes rfl ?_
            refine mix1_true (fun wz hz => ex_eql rfl rfl) (by decide) ?_
            refine nZ187 ?_
            refine mixz_p rfl ?_
            refine mix1_val (fun wz hz => ex_pick_t rfl rfl) ?_
            refine mixz_p rfl ?_
            refine mix1_val (fun wz hz => ex_move rfl) ?_
            refine mixz_p rfl ?_
            refine mix1_yes rfl ?_
            refine mix1_val (fun wz hz => ex_move rfl) ?_
            refine mixz_p rfl ?_
            refine mix1_yes rfl ?_
            refine mix1_true (fun wz hz => ex_neq_nil_ptr Try.underlying28 rfl) (by simp) ?_
            refine nZ187 ?_
            refine mixz_p rfl ?_
            refine mix1_val (fun wz hz => ex_pick_t rfl rfl) ?_
            refine mixz_p rfl ?_
            refine mix1_val (fun wz hz => ex_move rfl) ?_
            refine mixz_p rfl ?_
            refine mix1_yes rfl ?_
            refine mix1_val (fun wz hz => ex_move rfl) ?_
            refine mixz_p rfl ?_
            refine mix1_yes rfl ?_
            refine mix1_val (fun wz hz => ex_move rfl) ?_
            refine nZ187 ?_
            refine mixz_o rfl ?_
            refine ops_yes rfl ?_
            refine ops_call_eq (ex_call gf19 rfl) (first_p m9.gv (W9.first : Int) _ (H17.cell (i := 15) rfl rfl)) ?_
            refine ops_nil ?_
            refine ⟨fun hne => H17.pick [6, 8, 9, 11] (by decide), ?_⟩
            refine nZ187 ?_
            refine mixz_p rfl ?_
            refine mix1_yes rfl ?_
            refine mix1_true (fun wz hz => ex_eql rfl rfl) (by omega) ?_
            refine mixz_p rfl ?_
            refine mix1_val (fun wz hz => ex_pick_t rfl rfl) ?_
            refine mixz_p rfl ?_
            refine mix1_val (fun wz hz => ex_move rfl) ?_
            refine mixz_p rfl ?_
            refine mix1_yes rfl ?_
            refine mix1_val (fun wz hz => ex_move rfl) ?_
            refine nZ187 ?_
            refine mixz_p rfl ?_
            refine mix1_yes rfl ?_
            refine mix1_val (v := .pointer (some ⟨s.k.gb, 0, none⟩)) (fun wz hz => ex_load ty24 rfl (by rw [hgb]; exact hz.cell (i := 2) (o := 0) rfl rfl)) ?_
            refine mixz_p rfl ?_
            refine mix1_yes rfl ?_
            refine mix1_val (fun wz hz => ex_nilCheck rfl) ?_
            refine mixz_p rfl ?_
            refine mix1_yes rfl ?_
            refine mix1_val (fun wz hz => ex_fieldAddr fl31_2 rfl) ?_
            refine mixz_p rfl ?_
            refine mix1_yes rfl ?_
            refine mix1_val (fun wz hz => ex_load ty29 rfl (hz.cell (i := 0) rfl rfl)) ?_
            refine nZ187 ?_
            refine mixz_p rfl ?_
            refine mix1_yes rfl ?_
            refine mix1_val (fun wz hz => ex_move rfl) ?_
            refine mixz_p rfl ?_
            refine mix1_yes rfl ?_
            refine mix1_val (fun wz hz => ex_cutLo Try.underlying29 ty34 rfl rfl (⟨by omega, by show (nn : Int) ≤ (s.K.all.length : Int); omega⟩)) ?_
            refine mixz_o rfl ?_
            refine ops_yes rfl ?_
            refine ops_call (ex_call gf17 rfl) ((Rn.records_any m9 Df W9 _ (H17.pick [12, 13, 14, 15, 16, 17] (by decide)).here hok9).d (fun _ _ hx => hx)) ?_
            rintro r w18 ⟨g18, cap9, ys9, sp9, hr, hcap9, hcs9, hgn9, hown9, hsep9, Hc⟩
            rw [hr]
            have hls9 := hown9.lsw
            replace hlE := hlE.keep0 Hc
            have H18 := H17.call0 Hc
            refine ops_nil ?_
            refine ⟨fun hne => H18.pick [6, 8, 9, 11] (by decide), ?_⟩
            refine nZ187 ?_
            refine mixz_o rfl ?_
            refine ops_yes rfl ?_
            have e9 : s.K.all.length - nn = W9.recs.length := by rw [hrc9]; omega
            have hcap5 : s.K.all.length ≤ s.k.ca := hlE.ok.cap
            have hY9 : Lsw w18 [] ((s.k.ys.drop nn).take (s.K.all.length - nn)) W9.recs := by
              have h1 : Lsw w18 [] s.k.ys s.K.all := hlE.ok.all.bare
              have h2 := (h1.drop nn).take (s.K.all.length - nn)
              have h3 : (s.K.all.drop nn).take (s.K.all.length - nn) = W9.recs := by rw [hrc9, hrcs, hf3, List.take_of_length_le (by rw [List.length_drop]; exact Nat.le_refl _)]
              rw [h3] at h2; exact h2
            have hB9 : Rd w18 (hd s.k.ga) s.K.all.length 1 s.k.ys := H18.rd (i := 7) (o := s.k.ga) (xs := s.k.ys) (sp := s.k.sa) rfl (by rw [Nat.mul_one]; exact hlE.ok.all.1) (by decide)
            refine ops_call_val (ex_call gf23 rfl) (lists_any2 (hd g18) (cutAddr (hd s.k.ga) nn s.k.ca 1) W9.recs cap9 (s.k.ca - nn) (s.K.all.length - nn) ys9 _ _ e9 (H18.rd (i := 18) (o := g18) (xs := ys9) (sp := sp9) rfl (by rw [hown9.len, Nat.mul_one]) (by decide)) (hB9.part (by omega) (Nat.le_refl _) hcap5) hls9 hY9 (by omega) (fun b hb => hok9.long b hb)) ?_
            intro w19 Hd
            have H19 := H18.callN Hd
            refine ops_nil ?_
            refine ⟨fun hne => H19.pick [6, 8, 9, 11] (by decide), ?_⟩
            refine nZ187 ?_
            refine mixz_p rfl ?_
            refine mix1_val (fun wz hz => ex_pick_t rfl rfl) ?_
            refine mixz_o rfl ?_
            refine ops_store1 ty4 H19 8 rfl rfl rfl rfl (by decide) rfl ?_
            intro w20 H20
            refine ops_nil ?_
            refine ⟨fun hne => absurd rfl hne, ?_⟩
            refine nZ187 ?_
            refine mixz_nil ?_
            change Run _ _ _ _ [_, _, _, _, _, _, _, _, _, _, _, _, _, _, _, _, _, _, _, _, _, _, _, _, _, _, _, _, _, _, _, _, _, _, _, _, _, _, _, _, _, _, _, _, _, _, _, _, _, _, _, _, _, _, _, _, _, _, _, _, _, _, _, _, _, _, _, _, _, _, _, _, _, _, _, _, _, _, _, _, _, _, _, _, _, _, _, _, _, _, _, _, _, _, _, _, _, _, _, _, _, _, _, _, _, _, _, _, _, _, _, _, _, _, _, _, _, _, _, _, _, _, _, _, _, _, _, _, _, _, _, _, _, _, _, _, _, _, _, _, _, _, _, _, _, _, _, _, _, _, _, _, _, _, _, _, _, _, _, _, _, _, _, _, _, _, _, _, _, _, _, _, _, _, _, _, _, _, _, _, _, _, _, _, _, _, _] _
            refine run_ret ?_
            have hDz := keepD hDm H20 (fun x hx => bl_cells HO x hx)
            have H8 := HO.all H20
            exact ⟨Dm, _, rfl, run_takeDeferred hDz, _, results_cell1 rfl ty4 rfl ((H8.loop (Hp.putO (.deferred none) hDz) (notc hDz) (by omega)).cell (i := 8) (o := 0) rfl rfl), rfl, (H8.loop (Hp.putO (.deferred none) hDz) (notc hDz) (by omega)).noRows⟩
end Rn
theorem walAll_any (A : Option Addr) (zs : List Value) (bs : List Blk) (c : Nat) (a1 : Int) (w0 : World) (hA : Rd w0 A bs.length 1 zs) (hL : Lsw w0 [] zs bs) : Does Try.prog 6 #[.slice A bs.length c, .int .i64 a1] w0 (fun r w' => r = .bool true ∧ Hp w0 w' [] []) := (Rn.walAll_p A zs bs c a1 w0 hA hL).d (fun _ _ h => h)
end Go.Proofs.Ytgkciibfpenjpaa
