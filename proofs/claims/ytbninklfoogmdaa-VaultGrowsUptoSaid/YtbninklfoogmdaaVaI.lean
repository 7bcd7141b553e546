/- Walks of layer 2, printed by wip/gen/codec.py. -/
import Derived.Test.YtbninklfoogmdaaNrm
import Derived.Test.YtbninklfoogmdaaVr
import Derived.Test.YtbninklfoogmdaaVaA
import Derived.Test.YtbninklfoogmdaaVaB
namespace Go.Proofs.Ytbninklfoogmdaa
open Go Go.RowKit
set_option linter.unusedVariables false
attribute [local irreducible] Still Ops Does Cd
set_option maxRecDepth 100000 in
set_option maxHeartbeats 4000000 in
theorem copied_a (x : Vt) (Ax : Option Addr) (kx : Nat) (ok : Nat → Prop) (w0 : World) (hb : Bs w0 ok Ax x.val) :
    Does Try.prog 62 #[.agg [.int .i64 x.slot, .int .i64 x.b.r, .int .i64 x.b.n, .slice Ax x.val.length kx].toArray] w0 (fun _ w' => Hp w0 w' [] []) := by
  refine does_of Try.func62 Try.ntmps62 rfl ?_
  change Run _ _ _ _ [.agg [.int .i64 x.slot, .int .i64 x.b.r, .int .i64 x.b.n, .slice Ax x.val.length kx].toArray, undef, undef, undef, undef, undef, undef, undef] _
  have H := Hp.refl w0
  refine run_seq ?_
  refine run_region ?_
  refine ops_box rfl rfl H ?_
  intro w1 g1 H1 hg1
  refine ops_alloc ty41 H1 ?_
  intro w2 g2 H2 hg2
  refine ops_nil ?_
  change Run _ _ _ _ [_, _, _, _, _, _, _, _] _
  refine run_seq ?_
  refine run_region ?_
  refine ops_val (ex_fieldAddr fl41_2 rfl) ?_
  refine ops_val (ex_load ty36 rfl (H2.cell (i := 0) rfl rfl)) ?_
  refine ops_call_own (ex_call gf37 rfl) (clone_any Ax x.val kx _ (hb.1.to0 H2) (by have := hb.2.2; omega)) ?_
  intro w3 gb cb sb hmb hcb hgb Hc
  have H3 := H2.call0 Hc
  refine ops_val (ex_fieldAddr fl41_2 rfl) ?_
  change Ops _ _ _ _ _ _ [_, _, _, _, _, _, _, _] _
  refine ops_store1 ty36 H3 0 rfl rfl rfl rfl (by first | decide | (simp; done) | simp [putAt]) rfl ?_
  intro w4 H4
  refine ops_nil ?_
  change Run _ _ _ _ [_, _, _, _, _, _, _, _] _
  refine run_seq ?_
  refine run_region ?_
  refine ops_val (ex_loadN ty41 rfl (vs := [.int .i64 x.slot, .int .i64 x.b.r, .int .i64 x.b.n, .slice (hd gb) x.val.length cb]) rfl (H4.cellsR (i := 0) rfl rfl)) ?_
  refine ops_store ty41 H4 1 rfl rfl rfl rfl rfl (by first | decide | (simp; done) | simp [putAt]) rfl ?_
  intro w5 H5
  refine ops_nil ?_
  change Run _ _ _ _ [_, _, _, _, _, _, _, _] _
  refine run_ret ?_
  refine fin_cell rfl ty41 (cs := [.int .i64 x.slot, .int .i64 x.b.r, .int .i64 x.b.n, .slice (hd gb) x.val.length cb]) rfl rfl (H5.cellsR (i := 1) rfl rfl) ?_
  exact H5.noRows
set_option maxRecDepth 100000 in
set_option maxHeartbeats 16000000 in
theorem load_a (p : Bal) (first : Int) (A : Option Addr) (k : Nat) (l : List Vt) (ok : Nat → Prop) (w0 : World) (hl : Sl (VtR w0 ok) 4 w0 ok A l) (hn : l.length ≤ 1000000000000000000) :
    Does Try.prog 47 #[.agg [.int .i64 p.r, .int .i64 p.n].toArray, .int .i64 first, .slice A l.length k] w0 (fun r w' => ∃ (v : Value) (e : Int), r = .tuple #[v, .int .i64 e] ∧ Ans (ldOk p first l) e ∧ Hp w0 w' [] []) := by
  refine does_of Try.func47 Try.ntmps47 rfl ?_
  refine nR82 ?_
  have H := Hp.refl w0
  obtain ⟨ps, hp, hr, ha, h2⟩ := hl
  have hlen := h2.len
  refine run_seq ?_
  refine run_region ?_
  refine ops_box rfl rfl H ?_
  intro w1 gp H1 _
  refine ops_val (ex_assign rfl) ?_
  refine ops_val (ex_assign rfl) ?_
  refine ops_nil ?_
  refine nR82 ?_
  refine run_seq ?_
  refine run_seq ?_
  refine run_region ?_
  refine ops_val (ex_move rfl) ?_
  refine ops_test (ex_lss rfl rfl) (fun hp13 => ?_) (fun hp13 => ?_)
  · skip
    refine ops_val (ex_move rfl) ?_
    refine nO82 ?_
    refine ops_no rfl ?_
    refine ops_no rfl ?_
    refine ops_val (ex_pick_t rfl rfl) ?_
    refine ops_val (ex_move rfl) ?_
    refine nO82 ?_
    refine ops_no rfl ?_
    refine ops_no rfl ?_
    refine nO82 ?_
    refine ops_no rfl ?_
    refine ops_no rfl ?_
    refine nO82 ?_
    refine ops_no rfl ?_
    refine ops_no rfl ?_
    refine nO82 ?_
    refine ops_no rfl ?_
    refine ops_no rfl ?_
    refine ops_val (ex_pick_t rfl rfl) ?_
    refine ops_nil ?_
    refine nR82 ?_
    refine run_cond_true rfl ?_
    refine run_seq ?_
    refine run_region ?_
    refine ops_val (ex_assign rfl) ?_
    refine ops_val (ex_assign rfl) ?_
    refine ops_nil ?_
    refine nR82 ?_
    refine run_ret ?_
    refine fin_ret2 rfl rfl rfl ?_
    exact ⟨_, _, rfl, Ans.no (ld_f1 (by omega)), H1.noRows⟩
  · skip
    refine ops_val (ex_move rfl) ?_
    refine nO82 ?_
    refine ops_yes rfl ?_
    refine ops_val (ex_move rfl) ?_
    refine ops_yes rfl ?_
    refine ops_test (ex_gtr rfl rfl) (fun hp16 => ?_) (fun hp16 => ?_)
    · skip
      refine ops_val (ex_pick_f rfl rfl) ?_
      refine ops_val (ex_move rfl) ?_
      refine nO82 ?_
      refine ops_no rfl ?_
      refine ops_no rfl ?_
      refine nO82 ?_
      refine ops_no rfl ?_
      refine ops_no rfl ?_
      refine nO82 ?_
      refine ops_no rfl ?_
      refine ops_no rfl ?_
      refine nO82 ?_
      refine ops_no rfl ?_
      refine ops_no rfl ?_
      refine ops_val (ex_pick_t rfl rfl) ?_
      refine ops_nil ?_
      refine nR82 ?_
      refine run_cond_true rfl ?_
      refine run_seq ?_
      refine run_region ?_
      refine ops_val (ex_assign rfl) ?_
      refine ops_val (ex_assign rfl) ?_
      refine ops_nil ?_
      refine nR82 ?_
      refine run_ret ?_
      refine fin_ret2 rfl rfl rfl ?_
      exact ⟨_, _, rfl, Ans.no (ld_f1 (by omega)), H1.noRows⟩
    · skip
      refine ops_val (ex_pick_f rfl rfl) ?_
      refine ops_val (ex_move rfl) ?_
      refine nO82 ?_
      refine ops_yes rfl ?_
      refine ops_val (ex_loadN ty34 rfl (vs := [.int .i64 p.r, .int .i64 p.n]) rfl (H1.cellsR (i := 0) rfl rfl)) ?_
      refine ops_yes rfl ?_
      refine ops_val (ex_build ty34 pl34 rfl rfl) ?_
      refine nO82 ?_
      refine ops_yes rfl ?_
      refine ops_test (ex_neq_bal rfl rfl) (fun hp21 => ?_) (fun hp21 => ?_)
      · skip
        refine ops_yes rfl ?_
        refine ops_val (ex_move rfl) ?_
        refine ops_yes rfl ?_
        refine ops_val (ex_loadN ty34 rfl (vs := [.int .i64 p.r, .int .i64 p.n]) rfl (H1.cellsR (i := 0) rfl rfl)) ?_
        refine nO82 ?_
        refine ops_yes rfl ?_
        refine ops_call_test (ex_call gf61 rfl) (real_a _ _) (fun hp24 w2 Hd => ?_) (fun hp24 w2 Hd => ?_)
        · have H2 := H1.callN Hd
          refine ops_yes rfl ?_
          refine ops_val (ex_not rfl) ?_
          refine ops_yes rfl ?_
          refine ops_val (ex_pick_t rfl rfl) ?_
          refine ops_val (ex_pick_f rfl rfl) ?_
          refine ops_nil ?_
          refine nR82 ?_
          refine run_cond_false rfl ?_
          refine run_skip ?_
          refine run_seq ?_
          refine run_region ?_
          refine ops_val (ex_loadN ty34 rfl (vs := [.int .i64 p.r, .int .i64 p.n]) rfl (H2.cellsR (i := 0) rfl rfl)) ?_
          refine ops_val (ex_move rfl) ?_
          refine ops_makeMap H2 ?_
          intro w3 gm H3 hgm hgm0
          have hIM := IntMap.new hgm
          have hgmw : w0.heap.size ≤ gm := by have := H2.size; omega
          refine ops_val (ex_build ty113 pl113 rfl rfl) ?_
          refine nO82 ?_
          have HB := H3
          have H3 := HB.here
          refine ops_box rfl rfl H3 ?_
          intro w4 ga H4 _
          have hIM := hIM.to H4 (fun hb => by obtain ⟨arr, T, z, hh⟩ := bl_cells HB gm hb; exact hIM.not _ _ _ hh)
          replace H4 := HB.all H4
          refine ops_val (ex_assign rfl) ?_
          refine ops_nil ?_
          refine nR82 ?_
          refine run_seq ?_
          refine run_region ?_
          refine ops_val (ex_move rfl) ?_
          refine ops_val (ex_assign rfl) ?_
          refine ops_nil ?_
          refine nR82 ?_
          refine run_seq ?_
          refine run_seq ?_
          refine run_region ?_
          refine ops_val (ex_move rfl) ?_
          refine ops_val (ex_len_slice Try.underlying35 rfl) ?_
          refine ops_val (ex_move rfl) ?_
          refine ops_nil ?_
          refine nR82 ?_
          refine run_block ?_
          refine run_loop (fun nQ lQ w => ∃ (i : Nat) (y m : Int), l.length - i = nQ ∧ Fits [some (.agg [.int .i64 p.r, .int .i64 p.n].toArray), some (.int .i64 first), none, some (.pointer (some ⟨gp, 0, none⟩)), none, none, none, none, some (.pointer (some ⟨ga, 0, none⟩)), some (.int .i64 m), none, none, none, none, none, none, none, none, none, none, none, none, none, none, none, none, none, none, none, none, none, none, none, none, some (.slice A l.length k), some (.int .i64 (l.length : Int)), some (.int .i64 y), none, none, none, none, none, none, none, none, none, none, none, none, none, none, none, none, none, none, none, none, none, none, none, none, none, none, none, none, none, none, none, none, none, none, none, none, none, none, none, none, none, none, none, none, none] lQ ∧ y = (i : Int) ∧ i ≤ l.length ∧ vtsOk p first first l = vtsOk p first m (l.drop i) ∧ first ≤ m ∧ IntMap w gm ∧ Hp w0 w [] [((some gp, 34, [.int .i64 p.r, .int .i64 p.n]) : Ent), (some ga, 113, [.int .i64 p.r, .int .i64 p.n, .int .i64 first, .map (some gm)])]) (l.length) ?_ ?_
          · exact ⟨0, _, first, rfl, (fs (fs (fn (fs (fn (fn (fn (fn (fs (fs (fn (fn (fn (fn (fn (fn (fn (fn (fn (fn (fn (fn (fn (fn (fn (fn (fn (fn (fn (fn (fn (fn (fn (fn (fs (fs (fs (fn (fn (fn (fn (fn (fn (fn (fn (fn (fn (fn (fn (fn (fn (fn (fn (fn (fn (fn (fn (fn (fn (fn (fn (fn (fn (fn (fn (fn (fn (fn (fn (fn (fn (fn (fn (fn (fn (fn (fn (fn (fn (fn (fn (fn f0)))))))))))))))))))))))))))))))))))))))))))))))))))))))))))))))))))))))))))))))))), rfl, Nat.zero_le _, rfl, Int.le_refl _, hIM, H4⟩
          · rintro nQ lQ w5 ⟨i, y, m, rfl, hfit, rfl, hi, hinv, hfm, hIM, H5⟩
            obtain ⟨j, rfl⟩ := hfit.open
            refine nR82 ?_
            clear hfit
            have HB := H5
            replace H5 := HB.here
            have hgmn : gm ∉ bl _ := fun hb => by obtain ⟨arr, T, z, hh⟩ := bl_cells HB gm hb; exact hIM.not _ _ _ hh
            refine run_seq ?_
            refine run_region ?_
            refine ops_test (ex_lss rfl rfl) (fun hp37 => ?_) (fun hp37 => ?_)
            · have hil : i < l.length := by omega
              obtain ⟨x, hx⟩ := get_of hil
              obtain ⟨p1, hp1, hR⟩ := h2.get hx
              obtain ⟨Ax, kx, rfl, hbx⟩ := hR
              obtain ⟨a1, ha1⟩ := hr.some_ (by omega)
              subst ha1
              refine ops_nil ?_
              refine nR82 ?_
              refine run_seq ?_
              refine run_cond_true rfl ?_
              refine run_skip ?_
              refine run_seq ?_
              refine run_block ?_
              refine run_seq ?_
              refine run_region ?_
              refine ops_val (ex_idx Try.underlying35 ty41 rfl rfl rfl hil rfl) ?_
              refine ops_val (ex_loadN ty41 rfl (vs := [.int .i64 x.slot, .int .i64 x.b.r, .int .i64 x.b.n, .slice Ax x.val.length kx]) rfl ((hr.to0 (HB.all H5)).elem hp hp1)) ?_
              refine ops_alloc ty41 H5 ?_
              intro w6 g6 H6 hg6
              refine ops_store ty41 H6 2 rfl rfl rfl rfl rfl (by first | decide | (simp; done) | simp [putAt]) rfl ?_
              intro w7 H7
              refine ops_nil ?_
              refine nR82 ?_
              refine run_seq ?_
              refine run_seq ?_
              refine run_region ?_
              refine ops_val (ex_fieldAddr fl41_0 rfl) ?_
              refine ops_val (ex_load ty3 rfl (H7.cell (i := 2) rfl rfl)) ?_
              refine ops_val (ex_move rfl) ?_
              refine ops_test (ex_lss rfl rfl) (fun hp43 => ?_) (fun hp43 => ?_)
              · skip
                refine ops_val (ex_move rfl) ?_
                refine nO82 ?_
                refine ops_no rfl ?_
                refine ops_no rfl ?_
                refine nO82 ?_
                refine ops_no rfl ?_
                refine ops_no rfl ?_
                refine nO82 ?_
                refine ops_no rfl ?_
                refine ops_val (ex_pick_t rfl rfl) ?_
                refine ops_val (ex_move rfl) ?_
                refine nO82 ?_
                refine ops_no rfl ?_
                refine ops_no rfl ?_
                refine nO82 ?_
                refine ops_no rfl ?_
                refine ops_no rfl ?_
                refine ops_val (ex_pick_t rfl rfl) ?_
                refine ops_val (ex_move rfl) ?_
                refine nO82 ?_
                refine ops_no rfl ?_
                refine ops_no rfl ?_
                refine nO82 ?_
                refine ops_no rfl ?_
                refine ops_no rfl ?_
                refine ops_val (ex_pick_t rfl rfl) ?_
                refine ops_val (ex_move rfl) ?_
                refine nO82 ?_
                refine ops_no rfl ?_
                refine ops_no rfl ?_
                refine nO82 ?_
                refine ops_no rfl ?_
                refine ops_no rfl ?_
                refine ops_val (ex_pick_t rfl rfl) ?_
                refine ops_nil ?_
                refine nR82 ?_
                refine run_cond_true rfl ?_
                refine run_seq ?_
                refine run_region ?_
                refine ops_val (ex_assign rfl) ?_
                refine ops_val (ex_assign rfl) ?_
                refine ops_nil ?_
                refine nR82 ?_
                refine run_ret ?_
                refine blk_ret ?_
                refine rnd_ret ?_
                refine blk_ret ?_
                refine fin_ret2 rfl rfl rfl ?_
                exact ⟨_, _, rfl, Ans.no (by rw [ld_v (by omega) (by omega), hinv]; exact vts_no hx fun hh => by omega), (HB.all H7).noRows⟩
              · skip
                refine ops_val (ex_move rfl) ?_
                refine nO82 ?_
                refine ops_yes rfl ?_
                refine ops_val (ex_fieldAddr fl41_0 rfl) ?_
                refine ops_yes rfl ?_
                refine ops_val (ex_load ty3 rfl (H7.cell (i := 2) rfl rfl)) ?_
                refine nO82 ?_
                refine ops_yes rfl ?_
                refine ops_val (ex_move rfl) ?_
                refine ops_yes rfl ?_
                refine ops_val (ex_add rfl rfl (IntWalk.i64_in _ (by omega))) ?_
                refine nO82 ?_
                refine ops_yes rfl ?_
                refine ops_test (ex_geq rfl rfl) (fun hp49 => ?_) (fun hp49 => ?_)
                · skip
                  refine ops_val (ex_pick_f rfl rfl) ?_
                  refine ops_val (ex_move rfl) ?_
                  refine nO82 ?_
                  refine ops_no rfl ?_
                  refine ops_no rfl ?_
                  refine nO82 ?_
                  refine ops_no rfl ?_
                  refine ops_no rfl ?_
                  refine ops_val (ex_pick_t rfl rfl) ?_
                  refine ops_val (ex_move rfl) ?_
                  refine nO82 ?_
                  refine ops_no rfl ?_
                  refine ops_no rfl ?_
                  refine nO82 ?_
                  refine ops_no rfl ?_
                  refine ops_no rfl ?_
                  refine ops_val (ex_pick_t rfl rfl) ?_
                  refine ops_val (ex_move rfl) ?_
                  refine nO82 ?_
                  refine ops_no rfl ?_
                  refine ops_no rfl ?_
                  refine nO82 ?_
                  refine ops_no rfl ?_
                  refine ops_no rfl ?_
                  refine ops_val (ex_pick_t rfl rfl) ?_
                  refine ops_nil ?_
                  refine nR82 ?_
                  refine run_cond_true rfl ?_
                  refine run_seq ?_
                  refine run_region ?_
                  refine ops_val (ex_assign rfl) ?_
                  refine ops_val (ex_assign rfl) ?_
                  refine ops_nil ?_
                  refine nR82 ?_
                  refine run_ret ?_
                  refine blk_ret ?_
                  refine rnd_ret ?_
                  refine blk_ret ?_
                  refine fin_ret2 rfl rfl rfl ?_
                  exact ⟨_, _, rfl, Ans.no (by rw [ld_v (by omega) (by omega), hinv]; exact vts_no hx fun hh => by omega), (HB.all H7).noRows⟩
                · skip
                  refine ops_val (ex_pick_f rfl rfl) ?_
                  refine ops_val (ex_move rfl) ?_
                  refine nO82 ?_
                  refine ops_yes rfl ?_
                  refine ops_val (ex_fieldAddr fl41_1 rfl) ?_
                  refine ops_yes rfl ?_
                  refine ops_val (ex_loadN ty34 rfl (vs := [.int .i64 x.b.r, .int .i64 x.b.n]) rfl (H7.cellsR (i := 2) rfl rfl)) ?_
                  refine nO82 ?_
                  refine ops_yes rfl ?_
                  refine ops_call_test (ex_call gf61 rfl) (real_a _ _) (fun hp54 w8 Hd => ?_) (fun hp54 w8 Hd => ?_)
                  · have H8 := H7.callN Hd
                    refine ops_yes rfl ?_
                    refine ops_val (ex_not rfl) ?_
                    refine ops_val (ex_pick_f rfl rfl) ?_
                    refine ops_val (ex_move rfl) ?_
                    refine nO82 ?_
                    refine ops_yes rfl ?_
                    refine ops_val (ex_loadN ty34 rfl (vs := [.int .i64 p.r, .int .i64 p.n]) rfl (H8.cellsR (i := 0) rfl rfl)) ?_
                    refine ops_yes rfl ?_
                    refine ops_val (ex_fieldAddr fl41_1 rfl) ?_
                    refine nO82 ?_
                    refine ops_yes rfl ?_
                    refine ops_val (ex_loadN ty34 rfl (vs := [.int .i64 x.b.r, .int .i64 x.b.n]) rfl (H8.cellsR (i := 2) rfl rfl)) ?_
                    refine ops_yes rfl ?_
                    refine ops_call_test (ex_call gf35 rfl) (less_b _ _ _) (fun hp61 w9 Hd => ?_) (fun hp61 w9 Hd => ?_)
                    · have H9 := H8.callN Hd
                      refine ops_val (ex_pick_f rfl rfl) ?_
                      refine ops_val (ex_move rfl) ?_
                      refine nO82 ?_
                      refine ops_no rfl ?_
                      refine ops_no rfl ?_
                      refine nO82 ?_
                      refine ops_no rfl ?_
                      refine ops_no rfl ?_
                      refine ops_val (ex_pick_t rfl rfl) ?_
                      refine ops_nil ?_
                      refine nR82 ?_
                      refine run_cond_true rfl ?_
                      refine run_seq ?_
                      refine run_region ?_
                      refine ops_val (ex_assign rfl) ?_
                      refine ops_val (ex_assign rfl) ?_
                      refine ops_nil ?_
                      refine nR82 ?_
                      refine run_ret ?_
                      refine blk_ret ?_
                      refine rnd_ret ?_
                      refine blk_ret ?_
                      refine fin_ret2 rfl rfl rfl ?_
                      exact ⟨_, _, rfl, Ans.no (by rw [ld_v (by omega) (by omega), hinv]; exact vts_no hx fun hh => hh.2.2.2.2.1 hp61), (HB.all H9).noRows⟩
                    · have H9 := H8.callN Hd
                      refine ops_val (ex_pick_f rfl rfl) ?_
                      refine ops_val (ex_move rfl) ?_
                      refine nO82 ?_
                      refine ops_yes rfl ?_
                      refine ops_val (ex_fieldAddr fl41_2 rfl) ?_
                      refine ops_yes rfl ?_
                      refine ops_val (ex_load ty36 rfl (H9.cell (i := 2) rfl rfl)) ?_
                      refine nO82 ?_
                      refine ops_yes rfl ?_
                      refine ops_val (ex_len_slice Try.underlying36 rfl) ?_
                      refine ops_yes rfl ?_
                      refine ops_test (ex_gtr rfl rfl) (fun hp67 => ?_) (fun hp67 => ?_)
                      · skip
                        refine ops_val (ex_pick_f rfl rfl) ?_
                        refine ops_nil ?_
                        refine nR82 ?_
                        refine run_cond_true rfl ?_
                        refine run_seq ?_
                        refine run_region ?_
                        refine ops_val (ex_assign rfl) ?_
                        refine ops_val (ex_assign rfl) ?_
                        refine ops_nil ?_
                        refine nR82 ?_
                        refine run_ret ?_
                        refine blk_ret ?_
                        refine rnd_ret ?_
                        refine blk_ret ?_
                        refine fin_ret2 rfl rfl rfl ?_
                        exact ⟨_, _, rfl, Ans.no (by rw [ld_v (by omega) (by omega), hinv]; exact vts_no hx fun hh => by omega), (HB.all H9).noRows⟩
                      · skip
                        refine ops_val (ex_pick_f rfl rfl) ?_
                        refine ops_nil ?_
                        refine nR82 ?_
                        refine run_cond_false rfl ?_
                        refine run_skip ?_
                        refine run_seq ?_
                        refine run_mixZ 8 [(true, 0), (true, 1), (true, 2), (true, 3), (true, 4), (true, 5), (true, 6), (false, 7), (false, 8)] H9 [0, 1, 2] mixed (by decide) (by kernel_rfl) ?_
                        rintro w10 hw10
                        have H10 := Hp.drew H9; rw [← hw10] at H10
                        refine mixz_p rfl ?_
                        refine mix1_val (fun wz hz => ex_move rfl) ?_
                        refine mixz_p rfl ?_
                        refine mix1_val (fun wz hz => ex_nilCheck rfl) ?_
                        refine mixz_p rfl ?_
                        refine mix1_val (fun wz hz => ex_fieldAddr fl113_2 rfl) ?_
                        refine mixz_p rfl ?_
                        refine mix1_val (fun wz hz => ex_load ty111 rfl (hz.cell (i := 1) rfl rfl)) ?_
                        refine nZ82 ?_
                        refine mixz_p rfl ?_
                        refine mix1_val (fun wz hz => ex_fieldAddr fl41_0 rfl) ?_
                        refine mixz_p rfl ?_
                        refine mix1_val (fun wz hz => ex_load ty3 rfl (hz.cell (i := 2) rfl rfl)) ?_
                        refine mixz_p rfl ?_
                        refine mix1_val (fun wz hz => ex_loadN ty41 rfl (vs := [.int .i64 x.slot, .int .i64 x.b.r, .int .i64 x.b.n, .slice Ax x.val.length kx]) rfl (hz.cellsR (i := 2) rfl rfl)) ?_
                        refine mixz_o rfl ?_
                        refine ops_call (ex_call gf62 rfl) (copied_a x Ax kx (fun _ => True) _ (hbx.to (HB.all H10) (fun _ _ _ => ⟨by simp, trivial⟩))) ?_
                        intro r w11 Hd
                        have H11 := H10.callN Hd
                        refine ops_nil ?_
                        refine ⟨fun hne => H11.pick [0, 1, 2] (by decide), ?_⟩
                        refine nZ82 ?_
                        refine mixz_o rfl ?_
                        have HW := HB.all H11
                        refine ops_mapUpdate Try.underlying111 Try.underlying3 HW rfl rfl rfl (hIM.to H11 hgmn) hgmw ?_
                        intro w12 H12 hIM _
                        have hgo := vts_go (p := p) (first := first) (m := m) hx ⟨by omega, by omega, hp54.1, hp54.2, hp61, by omega⟩
                        refine ops_nil ?_
                        refine ⟨fun hne => absurd rfl hne, ?_⟩
                        refine nZ82 ?_
                        refine mixz_nil ?_
                        refine nR82 ?_
                        refine run_region ?_
                        refine ops_val (ex_fieldAddr fl41_0 rfl) ?_
                        refine ops_val (ex_load ty3 rfl (H12.cell (i := 2) rfl rfl)) ?_
                        refine ops_val (ex_add rfl rfl (IntWalk.i64_in _ (by omega))) ?_
                        refine ops_val (ex_assign rfl) ?_
                        refine ops_nil ?_
                        refine nR82 ?_
                        refine run_nil (blk_normal ?_)
                        refine run_region ?_
                        refine ops_val (ex_add rfl rfl (IntWalk.i64_in _ (by omega))) ?_
                        refine ops_val (ex_move rfl) ?_
                        refine ops_nil ?_
                        refine nR82 ?_
                        refine run_nil (rnd_normal ?_)
                        exact ⟨l.length - (i + 1), by omega, i + 1, _, x.slot + 1, rfl, (fs (fs (fn (fs (fn (fn (fn (fn (fs (fs (fn (fn (fn (fn (fn (fn (fn (fn (fn (fn (fn (fn (fn (fn (fn (fn (fn (fn (fn (fn (fn (fn (fn (fn (fs (fs (fs (fn (fn (fn (fn (fn (fn (fn (fn (fn (fn (fn (fn (fn (fn (fn (fn (fn (fn (fn (fn (fn (fn (fn (fn (fn (fn (fn (fn (fn (fn (fn (fn (fn (fn (fn (fn (fn (fn (fn (fn (fn (fn (fn (fn (fn f0)))))))))))))))))))))))))))))))))))))))))))))))))))))))))))))))))))))))))))))))))), by omega, by omega, by rw [hinv, hgo], by omega, hIM, H12.pick [0, 1] (by decide)⟩
                  · have H8 := H7.callN Hd
                    refine ops_yes rfl ?_
                    refine ops_val (ex_not rfl) ?_
                    refine ops_val (ex_pick_f rfl rfl) ?_
                    refine ops_val (ex_move rfl) ?_
                    refine nO82 ?_
                    refine ops_no rfl ?_
                    refine ops_no rfl ?_
                    refine nO82 ?_
                    refine ops_no rfl ?_
                    refine ops_no rfl ?_
                    refine ops_val (ex_pick_t rfl rfl) ?_
                    refine ops_val (ex_move rfl) ?_
                    refine nO82 ?_
                    refine ops_no rfl ?_
                    refine ops_no rfl ?_
                    refine nO82 ?_
                    refine ops_no rfl ?_
                    refine ops_no rfl ?_
                    refine ops_val (ex_pick_t rfl rfl) ?_
                    refine ops_nil ?_
                    refine nR82 ?_
                    refine run_cond_true rfl ?_
                    refine run_seq ?_
                    refine run_region ?_
                    refine ops_val (ex_assign rfl) ?_
                    refine ops_val (ex_assign rfl) ?_
                    refine ops_nil ?_
                    refine nR82 ?_
                    refine run_ret ?_
                    refine blk_ret ?_
                    refine rnd_ret ?_
                    refine blk_ret ?_
                    refine fin_ret2 rfl rfl rfl ?_
                    exact ⟨_, _, rfl, Ans.no (by rw [ld_v (by omega) (by omega), hinv]; exact vts_no hx fun hh => hp54 ⟨hh.2.2.1, hh.2.2.2.1⟩), (HB.all H8).noRows⟩
            · obtain rfl : i = l.length := by omega
              refine ops_nil ?_
              refine nR82 ?_
              refine run_seq ?_
              refine run_cond_false rfl ?_
              refine run_exit ?_
              refine rnd_exit ?_
              refine blk_exit ?_
              refine run_seq ?_
              refine run_region ?_
              refine ops_val (ex_move rfl) ?_
              refine ops_val (ex_assign rfl) ?_
              refine ops_val (ex_assign rfl) ?_
              refine ops_nil ?_
              refine nR82 ?_
              refine run_ret ?_
              refine fin_ret2 rfl rfl rfl ?_
              exact ⟨_, _, rfl, Ans.ok (by rw [ld_v (by omega) (by omega), hinv]; exact vts_end), (HB.all H5).noRows⟩
        · have H2 := H1.callN Hd
          refine ops_yes rfl ?_
          refine ops_val (ex_not rfl) ?_
          refine ops_yes rfl ?_
          refine ops_val (ex_pick_t rfl rfl) ?_
          refine ops_val (ex_pick_f rfl rfl) ?_
          refine ops_nil ?_
          refine nR82 ?_
          refine run_cond_true rfl ?_
          refine run_seq ?_
          refine run_region ?_
          refine ops_val (ex_assign rfl) ?_
          refine ops_val (ex_assign rfl) ?_
          refine ops_nil ?_
          refine nR82 ?_
          refine run_ret ?_
          refine fin_ret2 rfl rfl rfl ?_
          exact ⟨_, _, rfl, Ans.no (ld_f2 (by omega)), H2.noRows⟩
      · skip
        refine ops_yes rfl ?_
        refine ops_val (ex_move rfl) ?_
        refine ops_no rfl ?_
        refine nO82 ?_
        refine ops_no rfl ?_
        refine ops_no rfl ?_
        refine nO82 ?_
        refine ops_yes rfl ?_
        refine ops_val (ex_pick_f rfl rfl) ?_
        refine ops_val (ex_pick_f rfl rfl) ?_
        refine ops_nil ?_
        refine nR82 ?_
        refine run_cond_false rfl ?_
        refine run_skip ?_
        refine run_seq ?_
        refine run_region ?_
        refine ops_val (ex_loadN ty34 rfl (vs := [.int .i64 p.r, .int .i64 p.n]) rfl (H1.cellsR (i := 0) rfl rfl)) ?_
        refine ops_val (ex_move rfl) ?_
        refine ops_makeMap H1 ?_
        intro w2 gm H2 hgm hgm0
        have hIM := IntMap.new hgm
        have hgmw : w0.heap.size ≤ gm := by have := H1.size; omega
        refine ops_val (ex_build ty113 pl113 rfl rfl) ?_
        refine nO82 ?_
        have HB := H2
        have H2 := HB.here
        refine ops_box rfl rfl H2 ?_
        intro w3 ga H3 _
        have hIM := hIM.to H3 (fun hb => by obtain ⟨arr, T, z, hh⟩ := bl_cells HB gm hb; exact hIM.not _ _ _ hh)
        replace H3 := HB.all H3
        refine ops_val (ex_assign rfl) ?_
        refine ops_nil ?_
        refine nR82 ?_
        refine run_seq ?_
        refine run_region ?_
        refine ops_val (ex_move rfl) ?_
        refine ops_val (ex_assign rfl) ?_
        refine ops_nil ?_
        refine nR82 ?_
        refine run_seq ?_
        refine run_seq ?_
        refine run_region ?_
        refine ops_val (ex_move rfl) ?_
        refine ops_val (ex_len_slice Try.underlying35 rfl) ?_
        refine ops_val (ex_move rfl) ?_
        refine ops_nil ?_
        refine nR82 ?_
        refine run_block ?_
        refine run_loop (fun nQ lQ w => ∃ (i : Nat) (y m : Int), l.length - i = nQ ∧ Fits [some (.agg [.int .i64 p.r, .int .i64 p.n].toArray), some (.int .i64 first), none, some (.pointer (some ⟨gp, 0, none⟩)), none, none, none, none, some (.pointer (some ⟨ga, 0, none⟩)), some (.int .i64 m), none, none, none, none, none, none, none, none, none, none, none, none, none, none, none, none, none, none, none, none, none, none, none, none, some (.slice A l.length k), some (.int .i64 (l.length : Int)), some (.int .i64 y), none, none, none, none, none, none, none, none, none, none, none, none, none, none, none, none, none, none, none, none, none, none, none, none, none, none, none, none, none, none, none, none, none, none, none, none, none, none, none, none, none, none, none, none, none] lQ ∧ y = (i : Int) ∧ i ≤ l.length ∧ vtsOk p first first l = vtsOk p first m (l.drop i) ∧ first ≤ m ∧ IntMap w gm ∧ Hp w0 w [] [((some gp, 34, [.int .i64 p.r, .int .i64 p.n]) : Ent), (some ga, 113, [.int .i64 p.r, .int .i64 p.n, .int .i64 first, .map (some gm)])]) (l.length) ?_ ?_
        · exact ⟨0, _, first, rfl, (fs (fs (fn (fs (fn (fn (fn (fn (fs (fs (fn (fn (fn (fn (fn (fn (fn (fn (fn (fn (fn (fn (fn (fn (fn (fn (fn (fn (fn (fn (fn (fn (fn (fn (fs (fs (fs (fn (fn (fn (fn (fn (fn (fn (fn (fn (fn (fn (fn (fn (fn (fn (fn (fn (fn (fn (fn (fn (fn (fn (fn (fn (fn (fn (fn (fn (fn (fn (fn (fn (fn (fn (fn (fn (fn (fn (fn (fn (fn (fn (fn (fn f0)))))))))))))))))))))))))))))))))))))))))))))))))))))))))))))))))))))))))))))))))), rfl, Nat.zero_le _, rfl, Int.le_refl _, hIM, H3⟩
        · rintro nQ lQ w4 ⟨i, y, m, rfl, hfit, rfl, hi, hinv, hfm, hIM, H4⟩
          obtain ⟨j, rfl⟩ := hfit.open
          refine nR82 ?_
          clear hfit
          have HB := H4
          replace H4 := HB.here
          have hgmn : gm ∉ bl _ := fun hb => by obtain ⟨arr, T, z, hh⟩ := bl_cells HB gm hb; exact hIM.not _ _ _ hh
          refine run_seq ?_
          refine run_region ?_
          refine ops_test (ex_lss rfl rfl) (fun hp37 => ?_) (fun hp37 => ?_)
          · have hil : i < l.length := by omega
            obtain ⟨x, hx⟩ := get_of hil
            obtain ⟨p1, hp1, hR⟩ := h2.get hx
            obtain ⟨Ax, kx, rfl, hbx⟩ := hR
            obtain ⟨a1, ha1⟩ := hr.some_ (by omega)
            subst ha1
            refine ops_nil ?_
            refine nR82 ?_
            refine run_seq ?_
            refine run_cond_true rfl ?_
            refine run_skip ?_
            refine run_seq ?_
            refine run_block ?_
            refine run_seq ?_
            refine run_region ?_
            refine ops_val (ex_idx Try.underlying35 ty41 rfl rfl rfl hil rfl) ?_
            refine ops_val (ex_loadN ty41 rfl (vs := [.int .i64 x.slot, .int .i64 x.b.r, .int .i64 x.b.n, .slice Ax x.val.length kx]) rfl ((hr.to0 (HB.all H4)).elem hp hp1)) ?_
            refine ops_alloc ty41 H4 ?_
            intro w5 g5 H5 hg5
            refine ops_store ty41 H5 2 rfl rfl rfl rfl rfl (by first | decide | (simp; done) | simp [putAt]) rfl ?_
            intro w6 H6
            refine ops_nil ?_
            refine nR82 ?_
            refine run_seq ?_
            refine run_seq ?_
            refine run_region ?_
            refine ops_val (ex_fieldAddr fl41_0 rfl) ?_
            refine ops_val (ex_load ty3 rfl (H6.cell (i := 2) rfl rfl)) ?_
            refine ops_val (ex_move rfl) ?_
            refine ops_test (ex_lss rfl rfl) (fun hp43 => ?_) (fun hp43 => ?_)
            · skip
              refine ops_val (ex_move rfl) ?_
              refine nO82 ?_
              refine ops_no rfl ?_
              refine ops_no rfl ?_
              refine nO82 ?_
              refine ops_no rfl ?_
              refine ops_no rfl ?_
              refine nO82 ?_
              refine ops_no rfl ?_
              refine ops_val (ex_pick_t rfl rfl) ?_
              refine ops_val (ex_move rfl) ?_
              refine nO82 ?_
              refine ops_no rfl ?_
              refine ops_no rfl ?_
              refine nO82 ?_
              refine ops_no rfl ?_
              refine ops_no rfl ?_
              refine ops_val (ex_pick_t rfl rfl) ?_
              refine ops_val (ex_move rfl) ?_
              refine nO82 ?_
              refine ops_no rfl ?_
              refine ops_no rfl ?_
              refine nO82 ?_
              refine ops_no rfl ?_
              refine ops_no rfl ?_
              refine ops_val (ex_pick_t rfl rfl) ?_
              refine ops_val (ex_move rfl) ?_
              refine nO82 ?_
              refine ops_no rfl ?_
              refine ops_no rfl ?_
              refine nO82 ?_
              refine ops_no rfl ?_
              refine ops_no rfl ?_
              refine ops_val (ex_pick_t rfl rfl) ?_
              refine ops_nil ?_
              refine nR82 ?_
              refine run_cond_true rfl ?_
              refine run_seq ?_
              refine run_region ?_
              refine ops_val (ex_assign rfl) ?_
              refine ops_val (ex_assign rfl) ?_
              refine ops_nil ?_
              refine nR82 ?_
              refine run_ret ?_
              refine blk_ret ?_
              refine rnd_ret ?_
              refine blk_ret ?_
              refine fin_ret2 rfl rfl rfl ?_
              exact ⟨_, _, rfl, Ans.no (by rw [ld_v (by omega) (by omega), hinv]; exact vts_no hx fun hh => by omega), (HB.all H6).noRows⟩
            · skip
              refine ops_val (ex_move rfl) ?_
              refine nO82 ?_
              refine ops_yes rfl ?_
              refine ops_val (ex_fieldAddr fl41_0 rfl) ?_
              refine ops_yes rfl ?_
              refine ops_val (ex_load ty3 rfl (H6.cell (i := 2) rfl rfl)) ?_
              refine nO82 ?_
              refine ops_yes rfl ?_
              refine ops_val (ex_move rfl) ?_
              refine ops_yes rfl ?_
              refine ops_val (ex_add rfl rfl (IntWalk.i64_in _ (by omega))) ?_
              refine nO82 ?_
              refine ops_yes rfl ?_
              refine ops_test (ex_geq rfl rfl) (fun hp49 => ?_) (fun hp49 => ?_)
              · skip
                refine ops_val (ex_pick_f rfl rfl) ?_
                refine ops_val (ex_move rfl) ?_
                refine nO82 ?_
                refine ops_no rfl ?_
                refine ops_no rfl ?_
                refine nO82 ?_
                refine ops_no rfl ?_
                refine ops_no rfl ?_
                refine ops_val (ex_pick_t rfl rfl) ?_
                refine ops_val (ex_move rfl) ?_
                refine nO82 ?_
                refine ops_no rfl ?_
                refine ops_no rfl ?_
                refine nO82 ?_
                refine ops_no rfl ?_
                refine ops_no rfl ?_
                refine ops_val (ex_pick_t rfl rfl) ?_
                refine ops_val (ex_move rfl) ?_
                refine nO82 ?_
                refine ops_no rfl ?_
                refine ops_no rfl ?_
                refine nO82 ?_
                refine ops_no rfl ?_
                refine ops_no rfl ?_
                refine ops_val (ex_pick_t rfl rfl) ?_
                refine ops_nil ?_
                refine nR82 ?_
                refine run_cond_true rfl ?_
                refine run_seq ?_
                refine run_region ?_
                refine ops_val (ex_assign rfl) ?_
                refine ops_val (ex_assign rfl) ?_
                refine ops_nil ?_
                refine nR82 ?_
                refine run_ret ?_
                refine blk_ret ?_
                refine rnd_ret ?_
                refine blk_ret ?_
                refine fin_ret2 rfl rfl rfl ?_
                exact ⟨_, _, rfl, Ans.no (by rw [ld_v (by omega) (by omega), hinv]; exact vts_no hx fun hh => by omega), (HB.all H6).noRows⟩
              · skip
                refine ops_val (ex_pick_f rfl rfl) ?_
                refine ops_val (ex_move rfl) ?_
                refine nO82 ?_
                refine ops_yes rfl ?_
                refine ops_val (ex_fieldAddr fl41_1 rfl) ?_
                refine ops_yes rfl ?_
                refine ops_val (ex_loadN ty34 rfl (vs := [.int .i64 x.b.r, .int .i64 x.b.n]) rfl (H6.cellsR (i := 2) rfl rfl)) ?_
                refine nO82 ?_
                refine ops_yes rfl ?_
                refine ops_call_test (ex_call gf61 rfl) (real_a _ _) (fun hp54 w7 Hd => ?_) (fun hp54 w7 Hd => ?_)
                · have H7 := H6.callN Hd
                  refine ops_yes rfl ?_
                  refine ops_val (ex_not rfl) ?_
                  refine ops_val (ex_pick_f rfl rfl) ?_
                  refine ops_val (ex_move rfl) ?_
                  refine nO82 ?_
                  refine ops_yes rfl ?_
                  refine ops_val (ex_loadN ty34 rfl (vs := [.int .i64 p.r, .int .i64 p.n]) rfl (H7.cellsR (i := 0) rfl rfl)) ?_
                  refine ops_yes rfl ?_
                  refine ops_val (ex_fieldAddr fl41_1 rfl) ?_
                  refine nO82 ?_
                  refine ops_yes rfl ?_
                  refine ops_val (ex_loadN ty34 rfl (vs := [.int .i64 x.b.r, .int .i64 x.b.n]) rfl (H7.cellsR (i := 2) rfl rfl)) ?_
                  refine ops_yes rfl ?_
                  refine ops_call_test (ex_call gf35 rfl) (less_b _ _ _) (fun hp61 w8 Hd => ?_) (fun hp61 w8 Hd => ?_)
                  · have H8 := H7.callN Hd
                    refine ops_val (ex_pick_f rfl rfl) ?_
                    refine ops_val (ex_move rfl) ?_
                    refine nO82 ?_
                    refine ops_no rfl ?_
                    refine ops_no rfl ?_
                    refine nO82 ?_
                    refine ops_no rfl ?_
                    refine ops_no rfl ?_
                    refine ops_val (ex_pick_t rfl rfl) ?_
                    refine ops_nil ?_
                    refine nR82 ?_
                    refine run_cond_true rfl ?_
                    refine run_seq ?_
                    refine run_region ?_
                    refine ops_val (ex_assign rfl) ?_
                    refine ops_val (ex_assign rfl) ?_
                    refine ops_nil ?_
                    refine nR82 ?_
                    refine run_ret ?_
                    refine blk_ret ?_
                    refine rnd_ret ?_
                    refine blk_ret ?_
                    refine fin_ret2 rfl rfl rfl ?_
                    exact ⟨_, _, rfl, Ans.no (by rw [ld_v (by omega) (by omega), hinv]; exact vts_no hx fun hh => hh.2.2.2.2.1 hp61), (HB.all H8).noRows⟩
                  · have H8 := H7.callN Hd
                    refine ops_val (ex_pick_f rfl rfl) ?_
                    refine ops_val (ex_move rfl) ?_
                    refine nO82 ?_
                    refine ops_yes rfl ?_
                    refine ops_val (ex_fieldAddr fl41_2 rfl) ?_
                    refine ops_yes rfl ?_
                    refine ops_val (ex_load ty36 rfl (H8.cell (i := 2) rfl rfl)) ?_
                    refine nO82 ?_
                    refine ops_yes rfl ?_
                    refine ops_val (ex_len_slice Try.underlying36 rfl) ?_
                    refine ops_yes rfl ?_
                    refine ops_test (ex_gtr rfl rfl) (fun hp67 => ?_) (fun hp67 => ?_)
                    · skip
                      refine ops_val (ex_pick_f rfl rfl) ?_
                      refine ops_nil ?_
                      refine nR82 ?_
                      refine run_cond_true rfl ?_
                      refine run_seq ?_
                      refine run_region ?_
                      refine ops_val (ex_assign rfl) ?_
                      refine ops_val (ex_assign rfl) ?_
                      refine ops_nil ?_
                      refine nR82 ?_
                      refine run_ret ?_
                      refine blk_ret ?_
                      refine rnd_ret ?_
                      refine blk_ret ?_
                      refine fin_ret2 rfl rfl rfl ?_
                      exact ⟨_, _, rfl, Ans.no (by rw [ld_v (by omega) (by omega), hinv]; exact vts_no hx fun hh => by omega), (HB.all H8).noRows⟩
                    · skip
                      refine ops_val (ex_pick_f rfl rfl) ?_
                      refine ops_nil ?_
                      refine nR82 ?_
                      refine run_cond_false rfl ?_
                      refine run_skip ?_
                      refine run_seq ?_
                      refine run_mixZ 8 [(true, 0), (true, 1), (true, 2), (true, 3), (true, 4), (true, 5), (true, 6), (false, 7), (false, 8)] H8 [0, 1, 2] mixed (by decide) (by kernel_rfl) ?_
                      rintro w9 hw9
                      have H9 := Hp.drew H8; rw [← hw9] at H9
                      refine mixz_p rfl ?_
                      refine mix1_val (fun wz hz => ex_move rfl) ?_
                      refine mixz_p rfl ?_
                      refine mix1_val (fun wz hz => ex_nilCheck rfl) ?_
                      refine mixz_p rfl ?_
                      refine mix1_val (fun wz hz => ex_fieldAddr fl113_2 rfl) ?_
                      refine mixz_p rfl ?_
                      refine mix1_val (fun wz hz => ex_load ty111 rfl (hz.cell (i := 1) rfl rfl)) ?_
                      refine nZ82 ?_
                      refine mixz_p rfl ?_
                      refine mix1_val (fun wz hz => ex_fieldAddr fl41_0 rfl) ?_
                      refine mixz_p rfl ?_
                      refine mix1_val (fun wz hz => ex_load ty3 rfl (hz.cell (i := 2) rfl rfl)) ?_
                      refine mixz_p rfl ?_
                      refine mix1_val (fun wz hz => ex_loadN ty41 rfl (vs := [.int .i64 x.slot, .int .i64 x.b.r, .int .i64 x.b.n, .slice Ax x.val.length kx]) rfl (hz.cellsR (i := 2) rfl rfl)) ?_
                      refine mixz_o rfl ?_
                      refine ops_call (ex_call gf62 rfl) (copied_a x Ax kx (fun _ => True) _ (hbx.to (HB.all H9) (fun _ _ _ => ⟨by simp, trivial⟩))) ?_
                      intro r w10 Hd
                      have H10 := H9.callN Hd
                      refine ops_nil ?_
                      refine ⟨fun hne => H10.pick [0, 1, 2] (by decide), ?_⟩
                      refine nZ82 ?_
                      refine mixz_o rfl ?_
                      have HW := HB.all H10
                      refine ops_mapUpdate Try.underlying111 Try.underlying3 HW rfl rfl rfl (hIM.to H10 hgmn) hgmw ?_
                      intro w11 H11 hIM _
                      have hgo := vts_go (p := p) (first := first) (m := m) hx ⟨by omega, by omega, hp54.1, hp54.2, hp61, by omega⟩
                      refine ops_nil ?_
                      refine ⟨fun hne => absurd rfl hne, ?_⟩
                      refine nZ82 ?_
                      refine mixz_nil ?_
                      refine nR82 ?_
                      refine run_region ?_
                      refine ops_val (ex_fieldAddr fl41_0 rfl) ?_
                      refine ops_val (ex_load ty3 rfl (H11.cell (i := 2) rfl rfl)) ?_
                      refine ops_val (ex_add rfl rfl (IntWalk.i64_in _ (by omega))) ?_
                      refine ops_val (ex_assign rfl) ?_
                      refine ops_nil ?_
                      refine nR82 ?_
                      refine run_nil (blk_normal ?_)
                      refine run_region ?_
                      refine ops_val (ex_add rfl rfl (IntWalk.i64_in _ (by omega))) ?_
                      refine ops_val (ex_move rfl) ?_
                      refine ops_nil ?_
                      refine nR82 ?_
                      refine run_nil (rnd_normal ?_)
                      exact ⟨l.length - (i + 1), by omega, i + 1, _, x.slot + 1, rfl, (fs (fs (fn (fs (fn (fn (fn (fn (fs (fs (fn (fn (fn (fn (fn (fn (fn (fn (fn (fn (fn (fn (fn (fn (fn (fn (fn (fn (fn (fn (fn (fn (fn (fn (fs (fs (fs (fn (fn (fn (fn (fn (fn (fn (fn (fn (fn (fn (fn (fn (fn (fn (fn (fn (fn (fn (fn (fn (fn (fn (fn (fn (fn (fn (fn (fn (fn (fn (fn (fn (fn (fn (fn (fn (fn (fn (fn (fn (fn (fn (fn (fn f0)))))))))))))))))))))))))))))))))))))))))))))))))))))))))))))))))))))))))))))))))), by omega, by omega, by rw [hinv, hgo], by omega, hIM, H11.pick [0, 1] (by decide)⟩
                · have H7 := H6.callN Hd
                  refine ops_yes rfl ?_
                  refine ops_val (ex_not rfl) ?_
                  refine ops_val (ex_pick_f rfl rfl) ?_
                  refine ops_val (ex_move rfl) ?_
                  refine nO82 ?_
                  refine ops_no rfl ?_
                  refine ops_no rfl ?_
                  refine nO82 ?_
                  refine ops_no rfl ?_
                  refine ops_no rfl ?_
                  refine ops_val (ex_pick_t rfl rfl) ?_
                  refine ops_val (ex_move rfl) ?_
                  refine nO82 ?_
                  refine ops_no rfl ?_
                  refine ops_no rfl ?_
                  refine nO82 ?_
                  refine ops_no rfl ?_
                  refine ops_no rfl ?_
                  refine ops_val (ex_pick_t rfl rfl) ?_
                  refine ops_nil ?_
                  refine nR82 ?_
                  refine run_cond_true rfl ?_
                  refine run_seq ?_
                  refine run_region ?_
                  refine ops_val (ex_assign rfl) ?_
                  refine ops_val (ex_assign rfl) ?_
                  refine ops_nil ?_
                  refine nR82 ?_
                  refine run_ret ?_
                  refine blk_ret ?_
                  refine rnd_ret ?_
                  refine blk_ret ?_
                  refine fin_ret2 rfl rfl rfl ?_
                  exact ⟨_, _, rfl, Ans.no (by rw [ld_v (by omega) (by omega), hinv]; exact vts_no hx fun hh => hp54 ⟨hh.2.2.1, hh.2.2.2.1⟩), (HB.all H7).noRows⟩
          · obtain rfl : i = l.length := by omega
            refine ops_nil ?_
            refine nR82 ?_
            refine run_seq ?_
            refine run_cond_false rfl ?_
            refine run_exit ?_
            refine rnd_exit ?_
            refine blk_exit ?_
            refine run_seq ?_
            refine run_region ?_
            refine ops_val (ex_move rfl) ?_
            refine ops_val (ex_assign rfl) ?_
            refine ops_val (ex_assign rfl) ?_
            refine ops_nil ?_
            refine nR82 ?_
            refine run_ret ?_
            refine fin_ret2 rfl rfl rfl ?_
            exact ⟨_, _, rfl, Ans.ok (by rw [ld_v (by omega) (by omega), hinv]; exact vts_end), (HB.all H4).noRows⟩
set_option maxRecDepth 100000 in
set_option maxHeartbeats 16000000 in
theorem load_p (s : Sv) (A1 : Option Addr) (k1 : Nat) (A2 : Option Addr) (k2 : Nat) (A3 : Option Addr) (k3 : Nat) (ok : Nat → Prop) (w0 : World) (hv1 : Sl (VtR w0 ok) 4 w0 ok A1 s.votes) (hv2 : Bs w0 ok A2 s.image) (hv3 : Sl (EnR w0 ok) 2 w0 ok A3 s.entries) (hvl : s.votes.length ≤ 1000000000000000000) (hel2 : s.entries.length ≤ 1000000000000000000) :
    Does Try.prog 23 #[.int .i64 1, .int .i64 5, .agg [.int .i64 s.p.r, .int .i64 s.p.n, .slice A1 s.votes.length k1, .int .i64 s.index, .slice A2 s.image.length k2, .slice A3 s.entries.length k3].toArray] w0 (fun r w' => ∃ (v : Value) (e : Int), r = .tuple #[v, .int .i64 e] ∧ Ans (chk s) e ∧ Hp w0 w' [] []) := by
  refine does_of Try.func23 Try.ntmps23 rfl ?_
  refine nR115 ?_
  have H := Hp.refl w0
  obtain ⟨pe, hpe, hre, hae, he2⟩ := id hv3
  have hel := he2.len
  refine run_seq ?_
  refine run_region ?_
  refine ops_box rfl rfl H ?_
  intro w1 gs H1 _
  refine ops_val (ex_assign rfl) ?_
  refine ops_val (ex_assign rfl) ?_
  refine ops_nil ?_
  refine nR115 ?_
  refine run_seq ?_
  refine run_seq ?_
  refine run_region ?_
  refine ops_val (ex_move rfl) ?_
  refine ops_true (ex_neq rfl rfl) (by decide) ?_
  refine ops_val (ex_move rfl) ?_
  refine nO115 ?_
  refine ops_yes rfl ?_
  refine ops_val (ex_move rfl) ?_
  refine ops_yes rfl ?_
  refine ops_true (ex_neq rfl rfl) (by decide) ?_
  refine ops_val (ex_pick_t rfl rfl) ?_
  refine ops_val (ex_move rfl) ?_
  refine nO115 ?_
  refine ops_yes rfl ?_
  refine ops_val (ex_move rfl) ?_
  refine ops_yes rfl ?_
  refine ops_false (ex_neq rfl rfl) (by decide) ?_
  refine ops_val (ex_pick_t rfl rfl) ?_
  refine ops_val (ex_move rfl) ?_
  refine nO115 ?_
  refine ops_yes rfl ?_
  refine ops_val (ex_move rfl) ?_
  refine ops_yes rfl ?_
  refine ops_false (ex_lss rfl rfl) (by decide) ?_
  refine ops_val (ex_pick_f rfl rfl) ?_
  refine ops_val (ex_move rfl) ?_
  refine nO115 ?_
  refine ops_yes rfl ?_
  refine ops_val (ex_move rfl) ?_
  refine ops_yes rfl ?_
  refine ops_val (ex_move rfl) ?_
  refine nO115 ?_
  refine ops_yes rfl ?_
  refine ops_false (ex_gtr rfl rfl) (by decide) ?_
  refine ops_val (ex_pick_f rfl rfl) ?_
  refine ops_nil ?_
  refine nR115 ?_
  refine run_cond_false rfl ?_
  refine run_skip ?_
  refine run_seq ?_
  refine run_seq ?_
  refine run_region ?_
  refine ops_val (ex_fieldAddr fl39_0 rfl) ?_
  refine ops_val (ex_loadN ty34 rfl (vs := [.int .i64 s.p.r, .int .i64 s.p.n]) rfl (H1.cellsR (i := 0) rfl rfl)) ?_
  refine ops_val (ex_build ty34 pl34 rfl rfl) ?_
  refine ops_test (ex_neq_bal rfl rfl) (fun hp34 => ?_) (fun hp34 => ?_)
  · skip
    refine ops_val (ex_move rfl) ?_
    refine nO115 ?_
    refine ops_yes rfl ?_
    refine ops_val (ex_fieldAddr fl39_0 rfl) ?_
    refine ops_yes rfl ?_
    refine ops_val (ex_loadN ty34 rfl (vs := [.int .i64 s.p.r, .int .i64 s.p.n]) rfl (H1.cellsR (i := 0) rfl rfl)) ?_
    refine nO115 ?_
    refine ops_yes rfl ?_
    refine ops_val (ex_move rfl) ?_
    refine ops_yes rfl ?_
    refine ops_call_test (ex_call gf46 rfl) (may_b _ _ _) (fun hp39 w2 Hd => ?_) (fun hp39 w2 Hd => ?_)
    · have H2 := H1.callN Hd
      refine ops_yes rfl ?_
      refine ops_val (ex_not rfl) ?_
      refine ops_val (ex_pick_t rfl rfl) ?_
      refine ops_val (ex_move rfl) ?_
      refine nO115 ?_
      refine ops_yes rfl ?_
      refine ops_val (ex_fieldAddr fl39_2 rfl) ?_
      refine ops_yes rfl ?_
      refine ops_val (ex_load ty3 rfl (H2.cell (i := 0) rfl rfl)) ?_
      refine nO115 ?_
      refine ops_yes rfl ?_
      refine ops_test (ex_lss rfl rfl) (fun hp45 => ?_) (fun hp45 => ?_)
      · skip
        refine ops_val (ex_pick_f rfl rfl) ?_
        refine ops_val (ex_move rfl) ?_
        refine nO115 ?_
        refine ops_no rfl ?_
        refine ops_no rfl ?_
        refine nO115 ?_
        refine ops_no rfl ?_
        refine ops_val (ex_pick_t rfl rfl) ?_
        refine ops_val (ex_move rfl) ?_
        refine nO115 ?_
        refine ops_no rfl ?_
        refine ops_no rfl ?_
        refine nO115 ?_
        refine ops_no rfl ?_
        refine ops_no rfl ?_
        refine nO115 ?_
        refine ops_no rfl ?_
        refine ops_no rfl ?_
        refine nO115 ?_
        refine ops_no rfl ?_
        refine ops_no rfl ?_
        refine nO115 ?_
        refine ops_no rfl ?_
        refine ops_val (ex_pick_t rfl rfl) ?_
        refine ops_val (ex_move rfl) ?_
        refine nO115 ?_
        refine ops_no rfl ?_
        refine ops_no rfl ?_
        refine nO115 ?_
        refine ops_no rfl ?_
        refine ops_no rfl ?_
        refine ops_val (ex_pick_t rfl rfl) ?_
        refine ops_nil ?_
        refine nR115 ?_
        refine run_cond_true rfl ?_
        refine run_seq ?_
        refine run_region ?_
        refine ops_val (ex_assign rfl) ?_
        refine ops_val (ex_assign rfl) ?_
        refine ops_nil ?_
        refine nR115 ?_
        refine run_ret ?_
        refine fin_ret2 rfl rfl rfl ?_
        exact ⟨_, _, rfl, Ans.no (chk_f2 (by omega)), H2.noRows⟩
      · skip
        refine ops_val (ex_pick_f rfl rfl) ?_
        refine ops_val (ex_move rfl) ?_
        refine nO115 ?_
        refine ops_yes rfl ?_
        refine ops_val (ex_fieldAddr fl39_2 rfl) ?_
        refine ops_yes rfl ?_
        refine ops_val (ex_load ty3 rfl (H2.cell (i := 0) rfl rfl)) ?_
        refine nO115 ?_
        refine ops_yes rfl ?_
        refine ops_test (ex_gtr rfl rfl) (fun hp50 => ?_) (fun hp50 => ?_)
        · skip
          refine ops_val (ex_pick_f rfl rfl) ?_
          refine ops_val (ex_move rfl) ?_
          refine nO115 ?_
          refine ops_no rfl ?_
          refine ops_no rfl ?_
          refine nO115 ?_
          refine ops_no rfl ?_
          refine ops_no rfl ?_
          refine nO115 ?_
          refine ops_no rfl ?_
          refine ops_no rfl ?_
          refine nO115 ?_
          refine ops_no rfl ?_
          refine ops_no rfl ?_
          refine nO115 ?_
          refine ops_no rfl ?_
          refine ops_val (ex_pick_t rfl rfl) ?_
          refine ops_val (ex_move rfl) ?_
          refine nO115 ?_
          refine ops_no rfl ?_
          refine ops_no rfl ?_
          refine nO115 ?_
          refine ops_no rfl ?_
          refine ops_no rfl ?_
          refine ops_val (ex_pick_t rfl rfl) ?_
          refine ops_nil ?_
          refine nR115 ?_
          refine run_cond_true rfl ?_
          refine run_seq ?_
          refine run_region ?_
          refine ops_val (ex_assign rfl) ?_
          refine ops_val (ex_assign rfl) ?_
          refine ops_nil ?_
          refine nR115 ?_
          refine run_ret ?_
          refine fin_ret2 rfl rfl rfl ?_
          exact ⟨_, _, rfl, Ans.no (chk_f2 (by omega)), H2.noRows⟩
        · skip
          refine ops_val (ex_pick_f rfl rfl) ?_
          refine ops_val (ex_move rfl) ?_
          refine nO115 ?_
          refine ops_yes rfl ?_
          refine ops_val (ex_fieldAddr fl39_2 rfl) ?_
          refine ops_yes rfl ?_
          refine ops_val (ex_load ty3 rfl (H2.cell (i := 0) rfl rfl)) ?_
          refine nO115 ?_
          refine ops_yes rfl ?_
          refine ops_test (ex_eql rfl rfl) (fun hp55 => ?_) (fun hp55 => ?_)
          · skip
            refine ops_yes rfl ?_
            refine ops_val (ex_move rfl) ?_
            refine ops_yes rfl ?_
            refine ops_val (ex_fieldAddr fl39_3 rfl) ?_
            refine nO115 ?_
            refine ops_yes rfl ?_
            refine ops_val (ex_load ty36 rfl (H2.cell (i := 0) rfl rfl)) ?_
            refine ops_yes rfl ?_
            refine ops_val (ex_len_slice Try.underlying36 rfl) ?_
            refine nO115 ?_
            refine ops_yes rfl ?_
            refine ops_test (ex_gtr rfl rfl) (fun hp60 => ?_) (fun hp60 => ?_)
            · skip
              refine ops_yes rfl ?_
              refine ops_val (ex_pick_t rfl rfl) ?_
              refine ops_val (ex_pick_f rfl rfl) ?_
              refine ops_val (ex_move rfl) ?_
              refine nO115 ?_
              refine ops_no rfl ?_
              refine ops_no rfl ?_
              refine nO115 ?_
              refine ops_no rfl ?_
              refine ops_no rfl ?_
              refine ops_val (ex_pick_t rfl rfl) ?_
              refine ops_nil ?_
              refine nR115 ?_
              refine run_cond_true rfl ?_
              refine run_seq ?_
              refine run_region ?_
              refine ops_val (ex_assign rfl) ?_
              refine ops_val (ex_assign rfl) ?_
              refine ops_nil ?_
              refine nR115 ?_
              refine run_ret ?_
              refine fin_ret2 rfl rfl rfl ?_
              exact ⟨_, _, rfl, Ans.no (chk_f2 (by omega)), H2.noRows⟩
            · skip
              refine ops_yes rfl ?_
              refine ops_val (ex_pick_t rfl rfl) ?_
              refine ops_val (ex_pick_f rfl rfl) ?_
              refine ops_val (ex_move rfl) ?_
              refine nO115 ?_
              refine ops_yes rfl ?_
              refine ops_val (ex_fieldAddr fl39_3 rfl) ?_
              refine ops_yes rfl ?_
              refine ops_val (ex_load ty36 rfl (H2.cell (i := 0) rfl rfl)) ?_
              refine nO115 ?_
              refine ops_yes rfl ?_
              refine ops_val (ex_len_slice Try.underlying36 rfl) ?_
              refine ops_yes rfl ?_
              refine ops_test (ex_gtr rfl rfl) (fun hp67 => ?_) (fun hp67 => ?_)
              · skip
                refine ops_val (ex_pick_f rfl rfl) ?_
                refine ops_nil ?_
                refine nR115 ?_
                refine run_cond_true rfl ?_
                refine run_seq ?_
                refine run_region ?_
                refine ops_val (ex_assign rfl) ?_
                refine ops_val (ex_assign rfl) ?_
                refine ops_nil ?_
                refine nR115 ?_
                refine run_ret ?_
                refine fin_ret2 rfl rfl rfl ?_
                exact ⟨_, _, rfl, Ans.no (chk_f2 (by omega)), H2.noRows⟩
              · skip
                refine ops_val (ex_pick_f rfl rfl) ?_
                refine ops_nil ?_
                refine nR115 ?_
                refine run_cond_false rfl ?_
                refine run_skip ?_
                refine run_seq ?_
                refine run_seq ?_
                refine run_region ?_
                refine ops_val (ex_fieldAddr fl39_4 rfl) ?_
                refine ops_val (ex_load ty37 rfl (H2.cell (i := 0) rfl rfl)) ?_
                refine ops_val (ex_len_slice Try.underlying37 rfl) ?_
                refine ops_val (ex_move rfl) ?_
                refine ops_nil ?_
                refine nR115 ?_
                refine run_block ?_
                refine run_loop (fun nQ lQ w => ∃ (i : Nat) (y : Int), s.entries.length - i = nQ ∧ Fits [none, some (.int .i64 5), none, none, none, some (.pointer (some ⟨gs, 0, none⟩)), none, none, none, none, none, none, none, none, none, none, none, none, none, none, none, none, none, none, none, none, none, none, none, none, none, none, none, none, none, none, none, none, none, none, none, none, none, none, none, none, none, none, none, none, none, none, none, none, none, none, none, none, none, none, none, none, none, none, none, none, none, none, none, none, some (.slice A3 s.entries.length k3), some (.int .i64 (s.entries.length : Int)), some (.int .i64 y), none, none, none, none, none, none, none, none, none, none, none, none, none, none, none, none, none, none, none, none, none, none, none, none, none, none, none, none, none, none, none, none, none, none, none, none, none, none, none, none, none, none] lQ ∧ y = (i : Int) ∧ i ≤ s.entries.length ∧ entOk s.index s.entries = entOk (s.index + i) (s.entries.drop i) ∧ Hp w0 w [] [((some gs, 39, [.int .i64 s.p.r, .int .i64 s.p.n, .slice A1 s.votes.length k1, .int .i64 s.index, .slice A2 s.image.length k2, .slice A3 s.entries.length k3]) : Ent)]) (s.entries.length) ?_ ?_
                · exact ⟨0, _, rfl, (fn (fs (fn (fn (fn (fs (fn (fn (fn (fn (fn (fn (fn (fn (fn (fn (fn (fn (fn (fn (fn (fn (fn (fn (fn (fn (fn (fn (fn (fn (fn (fn (fn (fn (fn (fn (fn (fn (fn (fn (fn (fn (fn (fn (fn (fn (fn (fn (fn (fn (fn (fn (fn (fn (fn (fn (fn (fn (fn (fn (fn (fn (fn (fn (fn (fn (fn (fn (fn (fn (fs (fs (fs (fn (fn (fn (fn (fn (fn (fn (fn (fn (fn (fn (fn (fn (fn (fn (fn (fn (fn (fn (fn (fn (fn (fn (fn (fn (fn (fn (fn (fn (fn (fn (fn (fn (fn (fn (fn (fn (fn (fn (fn (fn (fn f0))))))))))))))))))))))))))))))))))))))))))))))))))))))))))))))))))))))))))))))))))))))))))))))))))))))))))))))))))), rfl, Nat.zero_le _, by simp, H2⟩
                · rintro nQ lQ w3 ⟨i, y, rfl, hfit, rfl, hi, hinv, H3⟩
                  obtain ⟨j, rfl⟩ := hfit.open
                  refine nR115 ?_
                  clear hfit
                  refine run_seq ?_
                  refine run_region ?_
                  refine ops_test (ex_lss rfl rfl) (fun hp73 => ?_) (fun hp73 => ?_)
                  · have hil : i < s.entries.length := by omega
                    obtain ⟨x, hx⟩ := get_of hil
                    obtain ⟨p1, hp1, hR⟩ := he2.get hx
                    obtain ⟨Ax, kx, rfl, hbx⟩ := hR
                    obtain ⟨a1, ha1⟩ := hre.some_ (by omega)
                    subst ha1
                    refine ops_nil ?_
                    refine nR115 ?_
                    refine run_seq ?_
                    refine run_cond_true rfl ?_
                    refine run_skip ?_
                    refine run_seq ?_
                    refine run_block ?_
                    refine run_seq ?_
                    refine run_region ?_
                    refine ops_val (ex_move rfl) ?_
                    refine ops_val (ex_idx Try.underlying37 ty44 rfl rfl rfl hil rfl) ?_
                    refine ops_val (ex_loadN ty44 rfl (vs := [.int .i64 x.slot, .slice Ax x.val.length kx]) rfl ((hre.to0 H3).elem hpe hp1)) ?_
                    refine ops_alloc ty44 H3 ?_
                    intro w4 g4 H4 hg4
                    refine nO115 ?_
                    refine ops_val (ex_assign rfl) ?_
                    refine ops_store ty44 H4 1 rfl rfl rfl rfl rfl (by first | decide | (simp; done) | simp [putAt]) rfl ?_
                    intro w5 H5
                    refine ops_nil ?_
                    refine nR115 ?_
                    refine run_seq ?_
                    refine run_region ?_
                    refine ops_val (ex_fieldAddr fl44_0 rfl) ?_
                    refine ops_val (ex_load ty3 rfl (H5.cell (i := 1) rfl rfl)) ?_
                    refine ops_val (ex_fieldAddr fl39_2 rfl) ?_
                    refine ops_val (ex_load ty3 rfl (H5.cell (i := 0) rfl rfl)) ?_
                    refine nO115 ?_
                    refine ops_val (ex_add rfl rfl (IntWalk.i64_in _ (by omega))) ?_
                    refine ops_val (ex_move rfl) ?_
                    refine ops_val (ex_add rfl rfl (IntWalk.i64_in _ (by omega))) ?_
                    refine ops_test (ex_neq rfl rfl) (fun hp84 => ?_) (fun hp84 => ?_)
                    · skip
                      refine ops_val (ex_move rfl) ?_
                      refine nO115 ?_
                      refine ops_no rfl ?_
                      refine ops_no rfl ?_
                      refine nO115 ?_
                      refine ops_no rfl ?_
                      refine ops_val (ex_pick_t rfl rfl) ?_
                      refine ops_val (ex_move rfl) ?_
                      refine nO115 ?_
                      refine ops_no rfl ?_
                      refine ops_no rfl ?_
                      refine nO115 ?_
                      refine ops_no rfl ?_
                      refine ops_no rfl ?_
                      refine ops_val (ex_pick_t rfl rfl) ?_
                      refine ops_nil ?_
                      refine nR115 ?_
                      refine run_cond_true rfl ?_
                      refine run_seq ?_
                      refine run_region ?_
                      refine ops_val (ex_assign rfl) ?_
                      refine ops_val (ex_assign rfl) ?_
                      refine ops_nil ?_
                      refine nR115 ?_
                      refine run_ret ?_
                      refine blk_ret ?_
                      refine rnd_ret ?_
                      refine blk_ret ?_
                      refine fin_ret2 rfl rfl rfl ?_
                      exact ⟨_, _, rfl, Ans.no (chk_f3 (by rw [hinv]; exact ent_no hx fun hh => by omega)), H5.noRows⟩
                    · skip
                      refine ops_val (ex_move rfl) ?_
                      refine nO115 ?_
                      refine ops_yes rfl ?_
                      refine ops_val (ex_fieldAddr fl44_0 rfl) ?_
                      refine ops_yes rfl ?_
                      refine ops_val (ex_load ty3 rfl (H5.cell (i := 1) rfl rfl)) ?_
                      refine nO115 ?_
                      refine ops_yes rfl ?_
                      refine ops_test (ex_gtr rfl rfl) (fun hp88 => ?_) (fun hp88 => ?_)
                      · skip
                        refine ops_val (ex_pick_f rfl rfl) ?_
                        refine ops_val (ex_move rfl) ?_
                        refine nO115 ?_
                        refine ops_no rfl ?_
                        refine ops_no rfl ?_
                        refine nO115 ?_
                        refine ops_no rfl ?_
                        refine ops_no rfl ?_
                        refine ops_val (ex_pick_t rfl rfl) ?_
                        refine ops_nil ?_
                        refine nR115 ?_
                        refine run_cond_true rfl ?_
                        refine run_seq ?_
                        refine run_region ?_
                        refine ops_val (ex_assign rfl) ?_
                        refine ops_val (ex_assign rfl) ?_
                        refine ops_nil ?_
                        refine nR115 ?_
                        refine run_ret ?_
                        refine blk_ret ?_
                        refine rnd_ret ?_
                        refine blk_ret ?_
                        refine fin_ret2 rfl rfl rfl ?_
                        exact ⟨_, _, rfl, Ans.no (chk_f3 (by rw [hinv]; exact ent_no hx fun hh => by omega)), H5.noRows⟩
                      · skip
                        refine ops_val (ex_pick_f rfl rfl) ?_
                        refine ops_val (ex_move rfl) ?_
                        refine nO115 ?_
                        refine ops_yes rfl ?_
                        refine ops_val (ex_fieldAddr fl44_1 rfl) ?_
                        refine ops_yes rfl ?_
                        refine ops_val (ex_load ty36 rfl (H5.cell (i := 1) rfl rfl)) ?_
                        refine nO115 ?_
                        refine ops_yes rfl ?_
                        refine ops_val (ex_len_slice Try.underlying36 rfl) ?_
                        refine ops_yes rfl ?_
                        refine ops_test (ex_gtr rfl rfl) (fun hp94 => ?_) (fun hp94 => ?_)
                        · skip
                          refine ops_val (ex_pick_f rfl rfl) ?_
                          refine ops_nil ?_
                          refine nR115 ?_
                          refine run_cond_true rfl ?_
                          refine run_seq ?_
                          refine run_region ?_
                          refine ops_val (ex_assign rfl) ?_
                          refine ops_val (ex_assign rfl) ?_
                          refine ops_nil ?_
                          refine nR115 ?_
                          refine run_ret ?_
                          refine blk_ret ?_
                          refine rnd_ret ?_
                          refine blk_ret ?_
                          refine fin_ret2 rfl rfl rfl ?_
                          exact ⟨_, _, rfl, Ans.no (chk_f3 (by rw [hinv]; exact ent_no hx fun hh => by omega)), H5.noRows⟩
                        · skip
                          refine ops_val (ex_pick_f rfl rfl) ?_
                          refine ops_nil ?_
                          refine nR115 ?_
                          refine run_cond_false rfl ?_
                          refine run_skip ?_
                          refine run_nil (blk_normal ?_)
                          refine run_region ?_
                          refine ops_val (ex_add rfl rfl (IntWalk.i64_in _ (by omega))) ?_
                          refine ops_val (ex_move rfl) ?_
                          refine ops_nil ?_
                          refine nR115 ?_
                          refine run_nil (rnd_normal ?_)
                          have hgo := ent_go (m := s.index + i) hx ⟨by omega, by omega, by omega⟩
                          exact ⟨s.entries.length - (i + 1), by omega, i + 1, _, rfl, (fn (fs (fn (fn (fn (fs (fn (fn (fn (fn (fn (fn (fn (fn (fn (fn (fn (fn (fn (fn (fn (fn (fn (fn (fn (fn (fn (fn (fn (fn (fn (fn (fn (fn (fn (fn (fn (fn (fn (fn (fn (fn (fn (fn (fn (fn (fn (fn (fn (fn (fn (fn (fn (fn (fn (fn (fn (fn (fn (fn (fn (fn (fn (fn (fn (fn (fn (fn (fn (fn (fs (fs (fs (fn (fn (fn (fn (fn (fn (fn (fn (fn (fn (fn (fn (fn (fn (fn (fn (fn (fn (fn (fn (fn (fn (fn (fn (fn (fn (fn (fn (fn (fn (fn (fn (fn (fn (fn (fn (fn (fn (fn (fn (fn (fn f0))))))))))))))))))))))))))))))))))))))))))))))))))))))))))))))))))))))))))))))))))))))))))))))))))))))))))))))))))), by omega, by omega, by rw [hinv, hgo]; congr 1; omega, H5.pick [0] (by decide)⟩
                  · obtain rfl : i = s.entries.length := by omega
                    have hent := hinv.trans ent_end
                    refine ops_nil ?_
                    refine nR115 ?_
                    refine run_seq ?_
                    refine run_cond_false rfl ?_
                    refine run_exit ?_
                    refine rnd_exit ?_
                    refine blk_exit ?_
                    refine run_seq ?_
                    refine run_region ?_
                    refine ops_val (ex_fieldAddr fl39_0 rfl) ?_
                    refine ops_val (ex_loadN ty34 rfl (vs := [.int .i64 s.p.r, .int .i64 s.p.n]) rfl (H3.cellsR (i := 0) rfl rfl)) ?_
                    refine ops_val (ex_fieldAddr fl39_2 rfl) ?_
                    refine ops_val (ex_load ty3 rfl (H3.cell (i := 0) rfl rfl)) ?_
                    refine nO115 ?_
                    refine ops_val (ex_fieldAddr fl39_4 rfl) ?_
                    refine ops_val (ex_load ty37 rfl (H3.cell (i := 0) rfl rfl)) ?_
                    refine ops_val (ex_len_slice Try.underlying37 rfl) ?_
                    refine ops_val (ex_add rfl rfl (IntWalk.i64_in _ (by omega))) ?_
                    refine nO115 ?_
                    refine ops_val (ex_add rfl rfl (IntWalk.i64_in _ (by omega))) ?_
                    refine ops_val (ex_fieldAddr fl39_1 rfl) ?_
                    refine ops_val (ex_load ty35 rfl (H3.cell (i := 0) rfl rfl)) ?_
                    refine ops_call (ex_call gf47 rfl) (load_a s.p (s.index + s.entries.length + 1) A1 k1 s.votes ok _ (hv1.toV H3 k0) (by omega)) ?_
                    rintro _ w4 ⟨v, e, rfl, hans, Hd⟩
                    have H4 := H3.callN Hd
                    rw [← chk_ld (by omega) (by omega) hent] at hans
                    refine nO115 ?_
                    refine ops_val (ex_move rfl) ?_
                    refine ops_val (ex_extract rfl rfl) ?_
                    refine ops_val (ex_extract rfl rfl) ?_
                    refine ops_val (ex_assign rfl) ?_
                    refine nO115 ?_
                    refine ops_val (ex_assign rfl) ?_
                    refine ops_nil ?_
                    refine nR115 ?_
                    refine run_seq ?_
                    refine run_seq ?_
                    refine run_region ?_
                    refine ops_val (ex_move rfl) ?_
                    refine ops_test (ex_neq rfl rfl) (fun hp113 => ?_) (fun hp113 => ?_)
                    · skip
                      refine ops_nil ?_
                      refine nR115 ?_
                      refine run_cond_true rfl ?_
                      refine run_seq ?_
                      refine run_region ?_
                      refine ops_val (ex_assign rfl) ?_
                      refine ops_val (ex_assign rfl) ?_
                      refine ops_nil ?_
                      refine nR115 ?_
                      refine run_ret ?_
                      refine fin_ret2 rfl rfl rfl ?_
                      exact ⟨_, _, rfl, Ans.no (by cases hc : chk s with | false => rfl | true => exact absurd (hans.1 hc) hp113), H4.noRows⟩
                    · skip
                      refine ops_nil ?_
                      refine nR115 ?_
                      refine run_cond_false rfl ?_
                      refine run_skip ?_
                      refine run_seq ?_
                      refine run_region ?_
                      refine ops_val (ex_move rfl) ?_
                      refine ops_val (ex_assign rfl) ?_
                      refine ops_val (ex_assign rfl) ?_
                      refine ops_nil ?_
                      refine nR115 ?_
                      refine run_ret ?_
                      refine fin_ret2 rfl rfl rfl ?_
                      exact ⟨_, _, rfl, Ans.ok (by cases hc : chk s with | true => rfl | false => have := hans.2 hc; omega), H4.noRows⟩
          · skip
            refine ops_yes rfl ?_
            refine ops_val (ex_move rfl) ?_
            refine ops_no rfl ?_
            refine nO115 ?_
            refine ops_no rfl ?_
            refine ops_no rfl ?_
            refine nO115 ?_
            refine ops_no rfl ?_
            refine ops_yes rfl ?_
            refine ops_val (ex_pick_f rfl rfl) ?_
            refine ops_val (ex_pick_f rfl rfl) ?_
            refine ops_val (ex_move rfl) ?_
            refine nO115 ?_
            refine ops_yes rfl ?_
            refine ops_val (ex_fieldAddr fl39_3 rfl) ?_
            refine ops_yes rfl ?_
            refine ops_val (ex_load ty36 rfl (H2.cell (i := 0) rfl rfl)) ?_
            refine nO115 ?_
            refine ops_yes rfl ?_
            refine ops_val (ex_len_slice Try.underlying36 rfl) ?_
            refine ops_yes rfl ?_
            refine ops_test (ex_gtr rfl rfl) (fun hp67 => ?_) (fun hp67 => ?_)
            · skip
              refine ops_val (ex_pick_f rfl rfl) ?_
              refine ops_nil ?_
              refine nR115 ?_
              refine run_cond_true rfl ?_
              refine run_seq ?_
              refine run_region ?_
              refine ops_val (ex_assign rfl) ?_
              refine ops_val (ex_assign rfl) ?_
              refine ops_nil ?_
              refine nR115 ?_
              refine run_ret ?_
              refine fin_ret2 rfl rfl rfl ?_
              exact ⟨_, _, rfl, Ans.no (chk_f2 (by omega)), H2.noRows⟩
            · skip
              refine ops_val (ex_pick_f rfl rfl) ?_
              refine ops_nil ?_
              refine nR115 ?_
              refine run_cond_false rfl ?_
              refine run_skip ?_
              refine run_seq ?_
              refine run_seq ?_
              refine run_region ?_
              refine ops_val (ex_fieldAddr fl39_4 rfl) ?_
              refine ops_val (ex_load ty37 rfl (H2.cell (i := 0) rfl rfl)) ?_
              refine ops_val (ex_len_slice Try.underlying37 rfl) ?_
              refine ops_val (ex_move rfl) ?_
              refine ops_nil ?_
              refine nR115 ?_
              refine run_block ?_
              refine run_loop (fun nQ lQ w => ∃ (i : Nat) (y : Int), s.entries.length - i = nQ ∧ Fits [none, some (.int .i64 5), none, none, none, some (.pointer (some ⟨gs, 0, none⟩)), none, none, none, none, none, none, none, none, none, none, none, none, none, none, none, none, none, none, none, none, none, none, none, none, none, none, none, none, none, none, none, none, none, none, none, none, none, none, none, none, none, none, none, none, none, none, none, none, none, none, none, none, none, none, none, none, none, none, none, none, none, none, none, none, some (.slice A3 s.entries.length k3), some (.int .i64 (s.entries.length : Int)), some (.int .i64 y), none, none, none, none, none, none, none, none, none, none, none, none, none, none, none, none, none, none, none, none, none, none, none, none, none, none, none, none, none, none, none, none, none, none, none, none, none, none, none, none, none, none] lQ ∧ y = (i : Int) ∧ i ≤ s.entries.length ∧ entOk s.index s.entries = entOk (s.index + i) (s.entries.drop i) ∧ Hp w0 w [] [((some gs, 39, [.int .i64 s.p.r, .int .i64 s.p.n, .slice A1 s.votes.length k1, .int .i64 s.index, .slice A2 s.image.length k2, .slice A3 s.entries.length k3]) : Ent)]) (s.entries.length) ?_ ?_
              · exact ⟨0, _, rfl, (fn (fs (fn (fn (fn (fs (fn (fn (fn (fn (fn (fn (fn (fn (fn (fn (fn (fn (fn (fn (fn (fn (fn (fn (fn (fn (fn (fn (fn (fn (fn (fn (fn (fn (fn (fn (fn (fn (fn (fn (fn (fn (fn (fn (fn (fn (fn (fn (fn (fn (fn (fn (fn (fn (fn (fn (fn (fn (fn (fn (fn (fn (fn (fn (fn (fn (fn (fn (fn (fn (fs (fs (fs (fn (fn (fn (fn (fn (fn (fn (fn (fn (fn (fn (fn (fn (fn (fn (fn (fn (fn (fn (fn (fn (fn (fn (fn (fn (fn (fn (fn (fn (fn (fn (fn (fn (fn (fn (fn (fn (fn (fn (fn (fn (fn f0))))))))))))))))))))))))))))))))))))))))))))))))))))))))))))))))))))))))))))))))))))))))))))))))))))))))))))))))))), rfl, Nat.zero_le _, by simp, H2⟩
              · rintro nQ lQ w3 ⟨i, y, rfl, hfit, rfl, hi, hinv, H3⟩
                obtain ⟨j, rfl⟩ := hfit.open
                refine nR115 ?_
                clear hfit
                refine run_seq ?_
                refine run_region ?_
                refine ops_test (ex_lss rfl rfl) (fun hp73 => ?_) (fun hp73 => ?_)
                · have hil : i < s.entries.length := by omega
                  obtain ⟨x, hx⟩ := get_of hil
                  obtain ⟨p1, hp1, hR⟩ := he2.get hx
                  obtain ⟨Ax, kx, rfl, hbx⟩ := hR
                  obtain ⟨a1, ha1⟩ := hre.some_ (by omega)
                  subst ha1
                  refine ops_nil ?_
                  refine nR115 ?_
                  refine run_seq ?_
                  refine run_cond_true rfl ?_
                  refine run_skip ?_
                  refine run_seq ?_
                  refine run_block ?_
                  refine run_seq ?_
                  refine run_region ?_
                  refine ops_val (ex_move rfl) ?_
                  refine ops_val (ex_idx Try.underlying37 ty44 rfl rfl rfl hil rfl) ?_
                  refine ops_val (ex_loadN ty44 rfl (vs := [.int .i64 x.slot, .slice Ax x.val.length kx]) rfl ((hre.to0 H3).elem hpe hp1)) ?_
                  refine ops_alloc ty44 H3 ?_
                  intro w4 g4 H4 hg4
                  refine nO115 ?_
                  refine ops_val (ex_assign rfl) ?_
                  refine ops_store ty44 H4 1 rfl rfl rfl rfl rfl (by first | decide | (simp; done) | simp [putAt]) rfl ?_
                  intro w5 H5
                  refine ops_nil ?_
                  refine nR115 ?_
                  refine run_seq ?_
                  refine run_region ?_
                  refine ops_val (ex_fieldAddr fl44_0 rfl) ?_
                  refine ops_val (ex_load ty3 rfl (H5.cell (i := 1) rfl rfl)) ?_
                  refine ops_val (ex_fieldAddr fl39_2 rfl) ?_
                  refine ops_val (ex_load ty3 rfl (H5.cell (i := 0) rfl rfl)) ?_
                  refine nO115 ?_
                  refine ops_val (ex_add rfl rfl (IntWalk.i64_in _ (by omega))) ?_
                  refine ops_val (ex_move rfl) ?_
                  refine ops_val (ex_add rfl rfl (IntWalk.i64_in _ (by omega))) ?_
                  refine ops_test (ex_neq rfl rfl) (fun hp84 => ?_) (fun hp84 => ?_)
                  · skip
                    refine ops_val (ex_move rfl) ?_
                    refine nO115 ?_
                    refine ops_no rfl ?_
                    refine ops_no rfl ?_
                    refine nO115 ?_
                    refine ops_no rfl ?_
                    refine ops_val (ex_pick_t rfl rfl) ?_
                    refine ops_val (ex_move rfl) ?_
                    refine nO115 ?_
                    refine ops_no rfl ?_
                    refine ops_no rfl ?_
                    refine nO115 ?_
                    refine ops_no rfl ?_
                    refine ops_no rfl ?_
                    refine ops_val (ex_pick_t rfl rfl) ?_
                    refine ops_nil ?_
                    refine nR115 ?_
                    refine run_cond_true rfl ?_
                    refine run_seq ?_
                    refine run_region ?_
                    refine ops_val (ex_assign rfl) ?_
                    refine ops_val (ex_assign rfl) ?_
                    refine ops_nil ?_
                    refine nR115 ?_
                    refine run_ret ?_
                    refine blk_ret ?_
                    refine rnd_ret ?_
                    refine blk_ret ?_
                    refine fin_ret2 rfl rfl rfl ?_
                    exact ⟨_, _, rfl, Ans.no (chk_f3 (by rw [hinv]; exact ent_no hx fun hh => by omega)), H5.noRows⟩
                  · skip
                    refine ops_val (ex_move rfl) ?_
                    refine nO115 ?_
                    refine ops_yes rfl ?_
                    refine ops_val (ex_fieldAddr fl44_0 rfl) ?_
                    refine ops_yes rfl ?_
                    refine ops_val (ex_load ty3 rfl (H5.cell (i := 1) rfl rfl)) ?_
                    refine nO115 ?_
                    refine ops_yes rfl ?_
                    refine ops_test (ex_gtr rfl rfl) (fun hp88 => ?_) (fun hp88 => ?_)
                    · skip
                      refine ops_val (ex_pick_f rfl rfl) ?_
                      refine ops_val (ex_move rfl) ?_
                      refine nO115 ?_
                      refine ops_no rfl ?_
                      refine ops_no rfl ?_
                      refine nO115 ?_
                      refine ops_no rfl ?_
                      refine ops_no rfl ?_
                      refine ops_val (ex_pick_t rfl rfl) ?_
                      refine ops_nil ?_
                      refine nR115 ?_
                      refine run_cond_true rfl ?_
                      refine run_seq ?_
                      refine run_region ?_
                      refine ops_val (ex_assign rfl) ?_
                      refine ops_val (ex_assign rfl) ?_
                      refine ops_nil ?_
                      refine nR115 ?_
                      refine run_ret ?_
                      refine blk_ret ?_
                      refine rnd_ret ?_
                      refine blk_ret ?_
                      refine fin_ret2 rfl rfl rfl ?_
                      exact ⟨_, _, rfl, Ans.no (chk_f3 (by rw [hinv]; exact ent_no hx fun hh => by omega)), H5.noRows⟩
                    · skip
                      refine ops_val (ex_pick_f rfl rfl) ?_
                      refine ops_val (ex_move rfl) ?_
                      refine nO115 ?_
                      refine ops_yes rfl ?_
                      refine ops_val (ex_fieldAddr fl44_1 rfl) ?_
                      refine ops_yes rfl ?_
                      refine ops_val (ex_load ty36 rfl (H5.cell (i := 1) rfl rfl)) ?_
                      refine nO115 ?_
                      refine ops_yes rfl ?_
                      refine ops_val (ex_len_slice Try.underlying36 rfl) ?_
                      refine ops_yes rfl ?_
                      refine ops_test (ex_gtr rfl rfl) (fun hp94 => ?_) (fun hp94 => ?_)
                      · skip
                        refine ops_val (ex_pick_f rfl rfl) ?_
                        refine ops_nil ?_
                        refine nR115 ?_
                        refine run_cond_true rfl ?_
                        refine run_seq ?_
                        refine run_region ?_
                        refine ops_val (ex_assign rfl) ?_
                        refine ops_val (ex_assign rfl) ?_
                        refine ops_nil ?_
                        refine nR115 ?_
                        refine run_ret ?_
                        refine blk_ret ?_
                        refine rnd_ret ?_
                        refine blk_ret ?_
                        refine fin_ret2 rfl rfl rfl ?_
                        exact ⟨_, _, rfl, Ans.no (chk_f3 (by rw [hinv]; exact ent_no hx fun hh => by omega)), H5.noRows⟩
                      · skip
                        refine ops_val (ex_pick_f rfl rfl) ?_
                        refine ops_nil ?_
                        refine nR115 ?_
                        refine run_cond_false rfl ?_
                        refine run_skip ?_
                        refine run_nil (blk_normal ?_)
                        refine run_region ?_
                        refine ops_val (ex_add rfl rfl (IntWalk.i64_in _ (by omega))) ?_
                        refine ops_val (ex_move rfl) ?_
                        refine ops_nil ?_
                        refine nR115 ?_
                        refine run_nil (rnd_normal ?_)
                        have hgo := ent_go (m := s.index + i) hx ⟨by omega, by omega, by omega⟩
                        exact ⟨s.entries.length - (i + 1), by omega, i + 1, _, rfl, (fn (fs (fn (fn (fn (fs (fn (fn (fn (fn (fn (fn (fn (fn (fn (fn (fn (fn (fn (fn (fn (fn (fn (fn (fn (fn (fn (fn (fn (fn (fn (fn (fn (fn (fn (fn (fn (fn (fn (fn (fn (fn (fn (fn (fn (fn (fn (fn (fn (fn (fn (fn (fn (fn (fn (fn (fn (fn (fn (fn (fn (fn (fn (fn (fn (fn (fn (fn (fn (fn (fs (fs (fs (fn (fn (fn (fn (fn (fn (fn (fn (fn (fn (fn (fn (fn (fn (fn (fn (fn (fn (fn (fn (fn (fn (fn (fn (fn (fn (fn (fn (fn (fn (fn (fn (fn (fn (fn (fn (fn (fn (fn (fn (fn (fn f0))))))))))))))))))))))))))))))))))))))))))))))))))))))))))))))))))))))))))))))))))))))))))))))))))))))))))))))))))), by omega, by omega, by rw [hinv, hgo]; congr 1; omega, H5.pick [0] (by decide)⟩
                · obtain rfl : i = s.entries.length := by omega
                  have hent := hinv.trans ent_end
                  refine ops_nil ?_
                  refine nR115 ?_
                  refine run_seq ?_
                  refine run_cond_false rfl ?_
                  refine run_exit ?_
                  refine rnd_exit ?_
                  refine blk_exit ?_
                  refine run_seq ?_
                  refine run_region ?_
                  refine ops_val (ex_fieldAddr fl39_0 rfl) ?_
                  refine ops_val (ex_loadN ty34 rfl (vs := [.int .i64 s.p.r, .int .i64 s.p.n]) rfl (H3.cellsR (i := 0) rfl rfl)) ?_
                  refine ops_val (ex_fieldAddr fl39_2 rfl) ?_
                  refine ops_val (ex_load ty3 rfl (H3.cell (i := 0) rfl rfl)) ?_
                  refine nO115 ?_
                  refine ops_val (ex_fieldAddr fl39_4 rfl) ?_
                  refine ops_val (ex_load ty37 rfl (H3.cell (i := 0) rfl rfl)) ?_
                  refine ops_val (ex_len_slice Try.underlying37 rfl) ?_
                  refine ops_val (ex_add rfl rfl (IntWalk.i64_in _ (by omega))) ?_
                  refine nO115 ?_
                  refine ops_val (ex_add rfl rfl (IntWalk.i64_in _ (by omega))) ?_
                  refine ops_val (ex_fieldAddr fl39_1 rfl) ?_
                  refine ops_val (ex_load ty35 rfl (H3.cell (i := 0) rfl rfl)) ?_
                  refine ops_call (ex_call gf47 rfl) (load_a s.p (s.index + s.entries.length + 1) A1 k1 s.votes ok _ (hv1.toV H3 k0) (by omega)) ?_
                  rintro _ w4 ⟨v, e, rfl, hans, Hd⟩
                  have H4 := H3.callN Hd
                  rw [← chk_ld (by omega) (by omega) hent] at hans
                  refine nO115 ?_
                  refine ops_val (ex_move rfl) ?_
                  refine ops_val (ex_extract rfl rfl) ?_
                  refine ops_val (ex_extract rfl rfl) ?_
                  refine ops_val (ex_assign rfl) ?_
                  refine nO115 ?_
                  refine ops_val (ex_assign rfl) ?_
                  refine ops_nil ?_
                  refine nR115 ?_
                  refine run_seq ?_
                  refine run_seq ?_
                  refine run_region ?_
                  refine ops_val (ex_move rfl) ?_
                  refine ops_test (ex_neq rfl rfl) (fun hp113 => ?_) (fun hp113 => ?_)
                  · skip
                    refine ops_nil ?_
                    refine nR115 ?_
                    refine run_cond_true rfl ?_
                    refine run_seq ?_
                    refine run_region ?_
                    refine ops_val (ex_assign rfl) ?_
                    refine ops_val (ex_assign rfl) ?_
                    refine ops_nil ?_
                    refine nR115 ?_
                    refine run_ret ?_
                    refine fin_ret2 rfl rfl rfl ?_
                    exact ⟨_, _, rfl, Ans.no (by cases hc : chk s with | false => rfl | true => exact absurd (hans.1 hc) hp113), H4.noRows⟩
                  · skip
                    refine ops_nil ?_
                    refine nR115 ?_
                    refine run_cond_false rfl ?_
                    refine run_skip ?_
                    refine run_seq ?_
                    refine run_region ?_
                    refine ops_val (ex_move rfl) ?_
                    refine ops_val (ex_assign rfl) ?_
                    refine ops_val (ex_assign rfl) ?_
                    refine ops_nil ?_
                    refine nR115 ?_
                    refine run_ret ?_
                    refine fin_ret2 rfl rfl rfl ?_
                    exact ⟨_, _, rfl, Ans.ok (by cases hc : chk s with | true => rfl | false => have := hans.2 hc; omega), H4.noRows⟩
    · have H2 := H1.callN Hd
      refine ops_yes rfl ?_
      refine ops_val (ex_not rfl) ?_
      refine ops_val (ex_pick_t rfl rfl) ?_
      refine ops_val (ex_move rfl) ?_
      refine nO115 ?_
      refine ops_no rfl ?_
      refine ops_no rfl ?_
      refine nO115 ?_
      refine ops_no rfl ?_
      refine ops_val (ex_pick_t rfl rfl) ?_
      refine ops_val (ex_move rfl) ?_
      refine nO115 ?_
      refine ops_no rfl ?_
      refine ops_no rfl ?_
      refine nO115 ?_
      refine ops_no rfl ?_
      refine ops_val (ex_pick_t rfl rfl) ?_
      refine ops_val (ex_move rfl) ?_
      refine nO115 ?_
      refine ops_no rfl ?_
      refine ops_no rfl ?_
      refine nO115 ?_
      refine ops_no rfl ?_
      refine ops_no rfl ?_
      refine nO115 ?_
      refine ops_no rfl ?_
      refine ops_no rfl ?_
      refine nO115 ?_
      refine ops_no rfl ?_
      refine ops_no rfl ?_
      refine nO115 ?_
      refine ops_no rfl ?_
      refine ops_val (ex_pick_t rfl rfl) ?_
      refine ops_val (ex_move rfl) ?_
      refine nO115 ?_
      refine ops_no rfl ?_
      refine ops_no rfl ?_
      refine nO115 ?_
      refine ops_no rfl ?_
      refine ops_no rfl ?_
      refine ops_val (ex_pick_t rfl rfl) ?_
      refine ops_nil ?_
      refine nR115 ?_
      refine run_cond_true rfl ?_
      refine run_seq ?_
      refine run_region ?_
      refine ops_val (ex_assign rfl) ?_
      refine ops_val (ex_assign rfl) ?_
      refine ops_nil ?_
      refine nR115 ?_
      refine run_ret ?_
      refine fin_ret2 rfl rfl rfl ?_
      exact ⟨_, _, rfl, Ans.no (chk_f1 (by omega)), H2.noRows⟩
  · skip
    refine ops_val (ex_move rfl) ?_
    refine nO115 ?_
    refine ops_no rfl ?_
    refine ops_no rfl ?_
    refine nO115 ?_
    refine ops_no rfl ?_
    refine ops_no rfl ?_
    refine nO115 ?_
    refine ops_no rfl ?_
    refine ops_val (ex_pick_f rfl rfl) ?_
    refine ops_val (ex_move rfl) ?_
    refine nO115 ?_
    refine ops_yes rfl ?_
    refine ops_val (ex_fieldAddr fl39_2 rfl) ?_
    refine ops_yes rfl ?_
    refine ops_val (ex_load ty3 rfl (H1.cell (i := 0) rfl rfl)) ?_
    refine nO115 ?_
    refine ops_yes rfl ?_
    refine ops_test (ex_lss rfl rfl) (fun hp45 => ?_) (fun hp45 => ?_)
    · skip
      refine ops_val (ex_pick_f rfl rfl) ?_
      refine ops_val (ex_move rfl) ?_
      refine nO115 ?_
      refine ops_no rfl ?_
      refine ops_no rfl ?_
      refine nO115 ?_
      refine ops_no rfl ?_
      refine ops_val (ex_pick_t rfl rfl) ?_
      refine ops_val (ex_move rfl) ?_
      refine nO115 ?_
      refine ops_no rfl ?_
      refine ops_no rfl ?_
      refine nO115 ?_
      refine ops_no rfl ?_
      refine ops_no rfl ?_
      refine nO115 ?_
      refine ops_no rfl ?_
      refine ops_no rfl ?_
      refine nO115 ?_
      refine ops_no rfl ?_
      refine ops_no rfl ?_
      refine nO115 ?_
      refine ops_no rfl ?_
      refine ops_val (ex_pick_t rfl rfl) ?_
      refine ops_val (ex_move rfl) ?_
      refine nO115 ?_
      refine ops_no rfl ?_
      refine ops_no rfl ?_
      refine nO115 ?_
      refine ops_no rfl ?_
      refine ops_no rfl ?_
      refine ops_val (ex_pick_t rfl rfl) ?_
      refine ops_nil ?_
      refine nR115 ?_
      refine run_cond_true rfl ?_
      refine run_seq ?_
      refine run_region ?_
      refine ops_val (ex_assign rfl) ?_
      refine ops_val (ex_assign rfl) ?_
      refine ops_nil ?_
      refine nR115 ?_
      refine run_ret ?_
      refine fin_ret2 rfl rfl rfl ?_
      exact ⟨_, _, rfl, Ans.no (chk_f2 (by omega)), H1.noRows⟩
    · skip
      refine ops_val (ex_pick_f rfl rfl) ?_
      refine ops_val (ex_move rfl) ?_
      refine nO115 ?_
      refine ops_yes rfl ?_
      refine ops_val (ex_fieldAddr fl39_2 rfl) ?_
      refine ops_yes rfl ?_
      refine ops_val (ex_load ty3 rfl (H1.cell (i := 0) rfl rfl)) ?_
      refine nO115 ?_
      refine ops_yes rfl ?_
      refine ops_test (ex_gtr rfl rfl) (fun hp50 => ?_) (fun hp50 => ?_)
      · skip
        refine ops_val (ex_pick_f rfl rfl) ?_
        refine ops_val (ex_move rfl) ?_
        refine nO115 ?_
        refine ops_no rfl ?_
        refine ops_no rfl ?_
        refine nO115 ?_
        refine ops_no rfl ?_
        refine ops_no rfl ?_
        refine nO115 ?_
        refine ops_no rfl ?_
        refine ops_no rfl ?_
        refine nO115 ?_
        refine ops_no rfl ?_
        refine ops_no rfl ?_
        refine nO115 ?_
        refine ops_no rfl ?_
        refine ops_val (ex_pick_t rfl rfl) ?_
        refine ops_val (ex_move rfl) ?_
        refine nO115 ?_
        refine ops_no rfl ?_
        refine ops_no rfl ?_
        refine nO115 ?_
        refine ops_no rfl ?_
        refine ops_no rfl ?_
        refine ops_val (ex_pick_t rfl rfl) ?_
        refine ops_nil ?_
        refine nR115 ?_
        refine run_cond_true rfl ?_
        refine run_seq ?_
        refine run_region ?_
        refine ops_val (ex_assign rfl) ?_
        refine ops_val (ex_assign rfl) ?_
        refine ops_nil ?_
        refine nR115 ?_
        refine run_ret ?_
        refine fin_ret2 rfl rfl rfl ?_
        exact ⟨_, _, rfl, Ans.no (chk_f2 (by omega)), H1.noRows⟩
      · skip
        refine ops_val (ex_pick_f rfl rfl) ?_
        refine ops_val (ex_move rfl) ?_
        refine nO115 ?_
        refine ops_yes rfl ?_
        refine ops_val (ex_fieldAddr fl39_2 rfl) ?_
        refine ops_yes rfl ?_
        refine ops_val (ex_load ty3 rfl (H1.cell (i := 0) rfl rfl)) ?_
        refine nO115 ?_
        refine ops_yes rfl ?_
        refine ops_test (ex_eql rfl rfl) (fun hp55 => ?_) (fun hp55 => ?_)
        · skip
          refine ops_yes rfl ?_
          refine ops_val (ex_move rfl) ?_
          refine ops_yes rfl ?_
          refine ops_val (ex_fieldAddr fl39_3 rfl) ?_
          refine nO115 ?_
          refine ops_yes rfl ?_
          refine ops_val (ex_load ty36 rfl (H1.cell (i := 0) rfl rfl)) ?_
          refine ops_yes rfl ?_
          refine ops_val (ex_len_slice Try.underlying36 rfl) ?_
          refine nO115 ?_
          refine ops_yes rfl ?_
          refine ops_test (ex_gtr rfl rfl) (fun hp60 => ?_) (fun hp60 => ?_)
          · skip
            refine ops_yes rfl ?_
            refine ops_val (ex_pick_t rfl rfl) ?_
            refine ops_val (ex_pick_f rfl rfl) ?_
            refine ops_val (ex_move rfl) ?_
            refine nO115 ?_
            refine ops_no rfl ?_
            refine ops_no rfl ?_
            refine nO115 ?_
            refine ops_no rfl ?_
            refine ops_no rfl ?_
            refine ops_val (ex_pick_t rfl rfl) ?_
            refine ops_nil ?_
            refine nR115 ?_
            refine run_cond_true rfl ?_
            refine run_seq ?_
            refine run_region ?_
            refine ops_val (ex_assign rfl) ?_
            refine ops_val (ex_assign rfl) ?_
            refine ops_nil ?_
            refine nR115 ?_
            refine run_ret ?_
            refine fin_ret2 rfl rfl rfl ?_
            exact ⟨_, _, rfl, Ans.no (chk_f2 (by omega)), H1.noRows⟩
          · skip
            refine ops_yes rfl ?_
            refine ops_val (ex_pick_t rfl rfl) ?_
            refine ops_val (ex_pick_f rfl rfl) ?_
            refine ops_val (ex_move rfl) ?_
            refine nO115 ?_
            refine ops_yes rfl ?_
            refine ops_val (ex_fieldAddr fl39_3 rfl) ?_
            refine ops_yes rfl ?_
            refine ops_val (ex_load ty36 rfl (H1.cell (i := 0) rfl rfl)) ?_
            refine nO115 ?_
            refine ops_yes rfl ?_
            refine ops_val (ex_len_slice Try.underlying36 rfl) ?_
            refine ops_yes rfl ?_
            refine ops_test (ex_gtr rfl rfl) (fun hp67 => ?_) (fun hp67 => ?_)
            · skip
              refine ops_val (ex_pick_f rfl rfl) ?_
              refine ops_nil ?_
              refine nR115 ?_
              refine run_cond_true rfl ?_
              refine run_seq ?_
              refine run_region ?_
              refine ops_val (ex_assign rfl) ?_
              refine ops_val (ex_assign rfl) ?_
              refine ops_nil ?_
              refine nR115 ?_
              refine run_ret ?_
              refine fin_ret2 rfl rfl rfl ?_
              exact ⟨_, _, rfl, Ans.no (chk_f2 (by omega)), H1.noRows⟩
            · skip
              refine ops_val (ex_pick_f rfl rfl) ?_
              refine ops_nil ?_
              refine nR115 ?_
              refine run_cond_false rfl ?_
              refine run_skip ?_
              refine run_seq ?_
              refine run_seq ?_
              refine run_region ?_
              refine ops_val (ex_fieldAddr fl39_4 rfl) ?_
              refine ops_val (ex_load ty37 rfl (H1.cell (i := 0) rfl rfl)) ?_
              refine ops_val (ex_len_slice Try.underlying37 rfl) ?_
              refine ops_val (ex_move rfl) ?_
              refine ops_nil ?_
              refine nR115 ?_
              refine run_block ?_
              refine run_loop (fun nQ lQ w => ∃ (i : Nat) (y : Int), s.entries.length - i = nQ ∧ Fits [none, some (.int .i64 5), none, none, none, some (.pointer (some ⟨gs, 0, none⟩)), none, none, none, none, none, none, none, none, none, none, none, none, none, none, none, none, none, none, none, none, none, none, none, none, none, none, none, none, none, none, none, none, none, none, none, none, none, none, none, none, none, none, none, none, none, none, none, none, none, none, none, none, none, none, none, none, none, none, none, none, none, none, none, none, some (.slice A3 s.entries.length k3), some (.int .i64 (s.entries.length : Int)), some (.int .i64 y), none, none, none, none, none, none, none, none, none, none, none, none, none, none, none, none, none, none, none, none, none, none, none, none, none, none, none, none, none, none, none, none, none, none, none, none, none, none, none, none, none, none] lQ ∧ y = (i : Int) ∧ i ≤ s.entries.length ∧ entOk s.index s.entries = entOk (s.index + i) (s.entries.drop i) ∧ Hp w0 w [] [((some gs, 39, [.int .i64 s.p.r, .int .i64 s.p.n, .slice A1 s.votes.length k1, .int .i64 s.index, .slice A2 s.image.length k2, .slice A3 s.entries.length k3]) : Ent)]) (s.entries.length) ?_ ?_
              · exact ⟨0, _, rfl, (fn (fs (fn (fn (fn (fs (fn (fn (fn (fn (fn (fn (fn (fn (fn (fn (fn (fn (fn (fn (fn (fn (fn (fn (fn (fn (fn (fn (fn (fn (fn (fn (fn (fn (fn (fn (fn (fn (fn (fn (fn (fn (fn (fn (fn (fn (fn (fn (fn (fn (fn (fn (fn (fn (fn (fn (fn (fn (fn (fn (fn (fn (fn (fn (fn (fn (fn (fn (fn (fn (fs (fs (fs (fn (fn (fn (fn (fn (fn (fn (fn (fn (fn (fn (fn (fn (fn (fn (fn (fn (fn (fn (fn (fn (fn (fn (fn (fn (fn (fn (fn (fn (fn (fn (fn (fn (fn (fn (fn (fn (fn (fn (fn (fn (fn f0))))))))))))))))))))))))))))))))))))))))))))))))))))))))))))))))))))))))))))))))))))))))))))))))))))))))))))))))))), rfl, Nat.zero_le _, by simp, H1⟩
              · rintro nQ lQ w2 ⟨i, y, rfl, hfit, rfl, hi, hinv, H2⟩
                obtain ⟨j, rfl⟩ := hfit.open
                refine nR115 ?_
                clear hfit
                refine run_seq ?_
                refine run_region ?_
                refine ops_test (ex_lss rfl rfl) (fun hp73 => ?_) (fun hp73 => ?_)
                · have hil : i < s.entries.length := by omega
                  obtain ⟨x, hx⟩ := get_of hil
                  obtain ⟨p1, hp1, hR⟩ := he2.get hx
                  obtain ⟨Ax, kx, rfl, hbx⟩ := hR
                  obtain ⟨a1, ha1⟩ := hre.some_ (by omega)
                  subst ha1
                  refine ops_nil ?_
                  refine nR115 ?_
                  refine run_seq ?_
                  refine run_cond_true rfl ?_
                  refine run_skip ?_
                  refine run_seq ?_
                  refine run_block ?_
                  refine run_seq ?_
                  refine run_region ?_
                  refine ops_val (ex_move rfl) ?_
                  refine ops_val (ex_idx Try.underlying37 ty44 rfl rfl rfl hil rfl) ?_
                  refine ops_val (ex_loadN ty44 rfl (vs := [.int .i64 x.slot, .slice Ax x.val.length kx]) rfl ((hre.to0 H2).elem hpe hp1)) ?_
                  refine ops_alloc ty44 H2 ?_
                  intro w3 g3 H3 hg3
                  refine nO115 ?_
                  refine ops_val (ex_assign rfl) ?_
                  refine ops_store ty44 H3 1 rfl rfl rfl rfl rfl (by first | decide | (simp; done) | simp [putAt]) rfl ?_
                  intro w4 H4
                  refine ops_nil ?_
                  refine nR115 ?_
                  refine run_seq ?_
                  refine run_region ?_
                  refine ops_val (ex_fieldAddr fl44_0 rfl) ?_
                  refine ops_val (ex_load ty3 rfl (H4.cell (i := 1) rfl rfl)) ?_
                  refine ops_val (ex_fieldAddr fl39_2 rfl) ?_
                  refine ops_val (ex_load ty3 rfl (H4.cell (i := 0) rfl rfl)) ?_
                  refine nO115 ?_
                  refine ops_val (ex_add rfl rfl (IntWalk.i64_in _ (by omega))) ?_
                  refine ops_val (ex_move rfl) ?_
                  refine ops_val (ex_add rfl rfl (IntWalk.i64_in _ (by omega))) ?_
                  refine ops_test (ex_neq rfl rfl) (fun hp84 => ?_) (fun hp84 => ?_)
                  · skip
                    refine ops_val (ex_move rfl) ?_
                    refine nO115 ?_
                    refine ops_no rfl ?_
                    refine ops_no rfl ?_
                    refine nO115 ?_
                    refine ops_no rfl ?_
                    refine ops_val (ex_pick_t rfl rfl) ?_
                    refine ops_val (ex_move rfl) ?_
                    refine nO115 ?_
                    refine ops_no rfl ?_
                    refine ops_no rfl ?_
                    refine nO115 ?_
                    refine ops_no rfl ?_
                    refine ops_no rfl ?_
                    refine ops_val (ex_pick_t rfl rfl) ?_
                    refine ops_nil ?_
                    refine nR115 ?_
                    refine run_cond_true rfl ?_
                    refine run_seq ?_
                    refine run_region ?_
                    refine ops_val (ex_assign rfl) ?_
                    refine ops_val (ex_assign rfl) ?_
                    refine ops_nil ?_
                    refine nR115 ?_
                    refine run_ret ?_
                    refine blk_ret ?_
                    refine rnd_ret ?_
                    refine blk_ret ?_
                    refine fin_ret2 rfl rfl rfl ?_
                    exact ⟨_, _, rfl, Ans.no (chk_f3 (by rw [hinv]; exact ent_no hx fun hh => by omega)), H4.noRows⟩
                  · skip
                    refine ops_val (ex_move rfl) ?_
                    refine nO115 ?_
                    refine ops_yes rfl ?_
                    refine ops_val (ex_fieldAddr fl44_0 rfl) ?_
                    refine ops_yes rfl ?_
                    refine ops_val (ex_load ty3 rfl (H4.cell (i := 1) rfl rfl)) ?_
                    refine nO115 ?_
                    refine ops_yes rfl ?_
                    refine ops_test (ex_gtr rfl rfl) (fun hp88 => ?_) (fun hp88 => ?_)
                    · skip
                      refine ops_val (ex_pick_f rfl rfl) ?_
                      refine ops_val (ex_move rfl) ?_
                      refine nO115 ?_
                      refine ops_no rfl ?_
                      refine ops_no rfl ?_
                      refine nO115 ?_
                      refine ops_no rfl ?_
                      refine ops_no rfl ?_
                      refine ops_val (ex_pick_t rfl rfl) ?_
                      refine ops_nil ?_
                      refine nR115 ?_
                      refine run_cond_true rfl ?_
                      refine run_seq ?_
                      refine run_region ?_
                      refine ops_val (ex_assign rfl) ?_
                      refine ops_val (ex_assign rfl) ?_
                      refine ops_nil ?_
                      refine nR115 ?_
                      refine run_ret ?_
                      refine blk_ret ?_
                      refine rnd_ret ?_
                      refine blk_ret ?_
                      refine fin_ret2 rfl rfl rfl ?_
                      exact ⟨_, _, rfl, Ans.no (chk_f3 (by rw [hinv]; exact ent_no hx fun hh => by omega)), H4.noRows⟩
                    · skip
                      refine ops_val (ex_pick_f rfl rfl) ?_
                      refine ops_val (ex_move rfl) ?_
                      refine nO115 ?_
                      refine ops_yes rfl ?_
                      refine ops_val (ex_fieldAddr fl44_1 rfl) ?_
                      refine ops_yes rfl ?_
                      refine ops_val (ex_load ty36 rfl (H4.cell (i := 1) rfl rfl)) ?_
                      refine nO115 ?_
                      refine ops_yes rfl ?_
                      refine ops_val (ex_len_slice Try.underlying36 rfl) ?_
                      refine ops_yes rfl ?_
                      refine ops_test (ex_gtr rfl rfl) (fun hp94 => ?_) (fun hp94 => ?_)
                      · skip
                        refine ops_val (ex_pick_f rfl rfl) ?_
                        refine ops_nil ?_
                        refine nR115 ?_
                        refine run_cond_true rfl ?_
                        refine run_seq ?_
                        refine run_region ?_
                        refine ops_val (ex_assign rfl) ?_
                        refine ops_val (ex_assign rfl) ?_
                        refine ops_nil ?_
                        refine nR115 ?_
                        refine run_ret ?_
                        refine blk_ret ?_
                        refine rnd_ret ?_
                        refine blk_ret ?_
                        refine fin_ret2 rfl rfl rfl ?_
                        exact ⟨_, _, rfl, Ans.no (chk_f3 (by rw [hinv]; exact ent_no hx fun hh => by omega)), H4.noRows⟩
                      · skip
                        refine ops_val (ex_pick_f rfl rfl) ?_
                        refine ops_nil ?_
                        refine nR115 ?_
                        refine run_cond_false rfl ?_
                        refine run_skip ?_
                        refine run_nil (blk_normal ?_)
                        refine run_region ?_
                        refine ops_val (ex_add rfl rfl (IntWalk.i64_in _ (by omega))) ?_
                        refine ops_val (ex_move rfl) ?_
                        refine ops_nil ?_
                        refine nR115 ?_
                        refine run_nil (rnd_normal ?_)
                        have hgo := ent_go (m := s.index + i) hx ⟨by omega, by omega, by omega⟩
                        exact ⟨s.entries.length - (i + 1), by omega, i + 1, _, rfl, (fn (fs (fn (fn (fn (fs (fn (fn (fn (fn (fn (fn (fn (fn (fn (fn (fn (fn (fn (fn (fn (fn (fn (fn (fn (fn (fn (fn (fn (fn (fn (fn (fn (fn (fn (fn (fn (fn (fn (fn (fn (fn (fn (fn (fn (fn (fn (fn (fn (fn (fn (fn (fn (fn (fn (fn (fn (fn (fn (fn (fn (fn (fn (fn (fn (fn (fn (fn (fn (fn (fs (fs (fs (fn (fn (fn (fn (fn (fn (fn (fn (fn (fn (fn (fn (fn (fn (fn (fn (fn (fn (fn (fn (fn (fn (fn (fn (fn (fn (fn (fn (fn (fn (fn (fn (fn (fn (fn (fn (fn (fn (fn (fn (fn (fn f0))))))))))))))))))))))))))))))))))))))))))))))))))))))))))))))))))))))))))))))))))))))))))))))))))))))))))))))))))), by omega, by omega, by rw [hinv, hgo]; congr 1; omega, H4.pick [0] (by decide)⟩
                · obtain rfl : i = s.entries.length := by omega
                  have hent := hinv.trans ent_end
                  refine ops_nil ?_
                  refine nR115 ?_
                  refine run_seq ?_
                  refine run_cond_false rfl ?_
                  refine run_exit ?_
                  refine rnd_exit ?_
                  refine blk_exit ?_
                  refine run_seq ?_
                  refine run_region ?_
                  refine ops_val (ex_fieldAddr fl39_0 rfl) ?_
                  refine ops_val (ex_loadN ty34 rfl (vs := [.int .i64 s.p.r, .int .i64 s.p.n]) rfl (H2.cellsR (i := 0) rfl rfl)) ?_
                  refine ops_val (ex_fieldAddr fl39_2 rfl) ?_
                  refine ops_val (ex_load ty3 rfl (H2.cell (i := 0) rfl rfl)) ?_
                  refine nO115 ?_
                  refine ops_val (ex_fieldAddr fl39_4 rfl) ?_
                  refine ops_val (ex_load ty37 rfl (H2.cell (i := 0) rfl rfl)) ?_
                  refine ops_val (ex_len_slice Try.underlying37 rfl) ?_
                  refine ops_val (ex_add rfl rfl (IntWalk.i64_in _ (by omega))) ?_
                  refine nO115 ?_
                  refine ops_val (ex_add rfl rfl (IntWalk.i64_in _ (by omega))) ?_
                  refine ops_val (ex_fieldAddr fl39_1 rfl) ?_
                  refine ops_val (ex_load ty35 rfl (H2.cell (i := 0) rfl rfl)) ?_
                  refine ops_call (ex_call gf47 rfl) (load_a s.p (s.index + s.entries.length + 1) A1 k1 s.votes ok _ (hv1.toV H2 k0) (by omega)) ?_
                  rintro _ w3 ⟨v, e, rfl, hans, Hd⟩
                  have H3 := H2.callN Hd
                  rw [← chk_ld (by omega) (by omega) hent] at hans
                  refine nO115 ?_
                  refine ops_val (ex_move rfl) ?_
                  refine ops_val (ex_extract rfl rfl) ?_
                  refine ops_val (ex_extract rfl rfl) ?_
                  refine ops_val (ex_assign rfl) ?_
                  refine nO115 ?_
                  refine ops_val (ex_assign rfl) ?_
                  refine ops_nil ?_
                  refine nR115 ?_
                  refine run_seq ?_
                  refine run_seq ?_
                  refine run_region ?_
                  refine ops_val (ex_move rfl) ?_
                  refine ops_test (ex_neq rfl rfl) (fun hp113 => ?_) (fun hp113 => ?_)
                  · skip
                    refine ops_nil ?_
                    refine nR115 ?_
                    refine run_cond_true rfl ?_
                    refine run_seq ?_
                    refine run_region ?_
                    refine ops_val (ex_assign rfl) ?_
                    refine ops_val (ex_assign rfl) ?_
                    refine ops_nil ?_
                    refine nR115 ?_
                    refine run_ret ?_
                    refine fin_ret2 rfl rfl rfl ?_
                    exact ⟨_, _, rfl, Ans.no (by cases hc : chk s with | false => rfl | true => exact absurd (hans.1 hc) hp113), H3.noRows⟩
                  · skip
                    refine ops_nil ?_
                    refine nR115 ?_
                    refine run_cond_false rfl ?_
                    refine run_skip ?_
                    refine run_seq ?_
                    refine run_region ?_
                    refine ops_val (ex_move rfl) ?_
                    refine ops_val (ex_assign rfl) ?_
                    refine ops_val (ex_assign rfl) ?_
                    refine ops_nil ?_
                    refine nR115 ?_
                    refine run_ret ?_
                    refine fin_ret2 rfl rfl rfl ?_
                    exact ⟨_, _, rfl, Ans.ok (by cases hc : chk s with | true => rfl | false => have := hans.2 hc; omega), H3.noRows⟩
        · skip
          refine ops_yes rfl ?_
          refine ops_val (ex_move rfl) ?_
          refine ops_no rfl ?_
          refine nO115 ?_
          refine ops_no rfl ?_
          refine ops_no rfl ?_
          refine nO115 ?_
          refine ops_no rfl ?_
          refine ops_yes rfl ?_
          refine ops_val (ex_pick_f rfl rfl) ?_
          refine ops_val (ex_pick_f rfl rfl) ?_
          refine ops_val (ex_move rfl) ?_
          refine nO115 ?_
          refine ops_yes rfl ?_
          refine ops_val (ex_fieldAddr fl39_3 rfl) ?_
          refine ops_yes rfl ?_
          refine ops_val (ex_load ty36 rfl (H1.cell (i := 0) rfl rfl)) ?_
          refine nO115 ?_
          refine ops_yes rfl ?_
          refine ops_val (ex_len_slice Try.underlying36 rfl) ?_
          refine ops_yes rfl ?_
          refine ops_test (ex_gtr rfl rfl) (fun hp67 => ?_) (fun hp67 => ?_)
          · skip
            refine ops_val (ex_pick_f rfl rfl) ?_
            refine ops_nil ?_
            refine nR115 ?_
            refine run_cond_true rfl ?_
            refine run_seq ?_
            refine run_region ?_
            refine ops_val (ex_assign rfl) ?_
            refine ops_val (ex_assign rfl) ?_
            refine ops_nil ?_
            refine nR115 ?_
            refine run_ret ?_
            refine fin_ret2 rfl rfl rfl ?_
            exact ⟨_, _, rfl, Ans.no (chk_f2 (by omega)), H1.noRows⟩
          · skip
            refine ops_val (ex_pick_f rfl rfl) ?_
            refine ops_nil ?_
            refine nR115 ?_
            refine run_cond_false rfl ?_
            refine run_skip ?_
            refine run_seq ?_
            refine run_seq ?_
            refine run_region ?_
            refine ops_val (ex_fieldAddr fl39_4 rfl) ?_
            refine ops_val (ex_load ty37 rfl (H1.cell (i := 0) rfl rfl)) ?_
            refine ops_val (ex_len_slice Try.underlying37 rfl) ?_
            refine ops_val (ex_move rfl) ?_
            refine ops_nil ?_
            refine nR115 ?_
            refine run_block ?_
            refine run_loop (fun nQ lQ w => ∃ (i : Nat) (y : Int), s.entries.length - i = nQ ∧ Fits [none, some (.int .i64 5), none, none, none, some (.pointer (some ⟨gs, 0, none⟩)), none, none, none, none, none, none, none, none, none, none, none, none, none, none, none, none, none, none, none, none, none, none, none, none, none, none, none, none, none, none, none, none, none, none, none, none, none, none, none, none, none, none, none, none, none, none, none, none, none, none, none, none, none, none, none, none, none, none, none, none, none, none, none, none, some (.slice A3 s.entries.length k3), some (.int .i64 (s.entries.length : Int)), some (.int .i64 y), none, none, none, none, none, none, none, none, none, none, none, none, none, none, none, none, none, none, none, none, none, none, none, none, none, none, none, none, none, none, none, none, none, none, none, none, none, none, none, none, none, none] lQ ∧ y = (i : Int) ∧ i ≤ s.entries.length ∧ entOk s.index s.entries = entOk (s.index + i) (s.entries.drop i) ∧ Hp w0 w [] [((some gs, 39, [.int .i64 s.p.r, .int .i64 s.p.n, .slice A1 s.votes.length k1, .int .i64 s.index, .slice A2 s.image.length k2, .slice A3 s.entries.length k3]) : Ent)]) (s.entries.length) ?_ ?_
            · exact ⟨0, _, rfl, (fn (fs (fn (fn (fn (fs (fn (fn (fn (fn (fn (fn (fn (fn (fn (fn (fn (fn (fn (fn (fn (fn (fn (fn (fn (fn (fn (fn (fn (fn (fn (fn (fn (fn (fn (fn (fn (fn (fn (fn (fn (fn (fn (fn (fn (fn (fn (fn (fn (fn (fn (fn (fn (fn (fn (fn (fn (fn (fn (fn (fn (fn (fn (fn (fn (fn (fn (fn (fn (fn (fs (fs (fs (fn (fn (fn (fn (fn (fn (fn (fn (fn (fn (fn (fn (fn (fn (fn (fn (fn (fn (fn (fn (fn (fn (fn (fn (fn (fn (fn (fn (fn (fn (fn (fn (fn (fn (fn (fn (fn (fn (fn (fn (fn (fn f0))))))))))))))))))))))))))))))))))))))))))))))))))))))))))))))))))))))))))))))))))))))))))))))))))))))))))))))))))), rfl, Nat.zero_le _, by simp, H1⟩
            · rintro nQ lQ w2 ⟨i, y, rfl, hfit, rfl, hi, hinv, H2⟩
              obtain ⟨j, rfl⟩ := hfit.open
              refine nR115 ?_
              clear hfit
              refine run_seq ?_
              refine run_region ?_
              refine ops_test (ex_lss rfl rfl) (fun hp73 => ?_) (fun hp73 => ?_)
              · have hil : i < s.entries.length := by omega
                obtain ⟨x, hx⟩ := get_of hil
                obtain ⟨p1, hp1, hR⟩ := he2.get hx
                obtain ⟨Ax, kx, rfl, hbx⟩ := hR
                obtain ⟨a1, ha1⟩ := hre.some_ (by omega)
                subst ha1
                refine ops_nil ?_
                refine nR115 ?_
                refine run_seq ?_
                refine run_cond_true rfl ?_
                refine run_skip ?_
                refine run_seq ?_
                refine run_block ?_
                refine run_seq ?_
                refine run_region ?_
                refine ops_val (ex_move rfl) ?_
                refine ops_val (ex_idx Try.underlying37 ty44 rfl rfl rfl hil rfl) ?_
                refine ops_val (ex_loadN ty44 rfl (vs := [.int .i64 x.slot, .slice Ax x.val.length kx]) rfl ((hre.to0 H2).elem hpe hp1)) ?_
                refine ops_alloc ty44 H2 ?_
                intro w3 g3 H3 hg3
                refine nO115 ?_
                refine ops_val (ex_assign rfl) ?_
                refine ops_store ty44 H3 1 rfl rfl rfl rfl rfl (by first | decide | (simp; done) | simp [putAt]) rfl ?_
                intro w4 H4
                refine ops_nil ?_
                refine nR115 ?_
                refine run_seq ?_
                refine run_region ?_
                refine ops_val (ex_fieldAddr fl44_0 rfl) ?_
                refine ops_val (ex_load ty3 rfl (H4.cell (i := 1) rfl rfl)) ?_
                refine ops_val (ex_fieldAddr fl39_2 rfl) ?_
                refine ops_val (ex_load ty3 rfl (H4.cell (i := 0) rfl rfl)) ?_
                refine nO115 ?_
                refine ops_val (ex_add rfl rfl (IntWalk.i64_in _ (by omega))) ?_
                refine ops_val (ex_move rfl) ?_
                refine ops_val (ex_add rfl rfl (IntWalk.i64_in _ (by omega))) ?_
                refine ops_test (ex_neq rfl rfl) (fun hp84 => ?_) (fun hp84 => ?_)
                · skip
                  refine ops_val (ex_move rfl) ?_
                  refine nO115 ?_
                  refine ops_no rfl ?_
                  refine ops_no rfl ?_
                  refine nO115 ?_
                  refine ops_no rfl ?_
                  refine ops_val (ex_pick_t rfl rfl) ?_
                  refine ops_val (ex_move rfl) ?_
                  refine nO115 ?_
                  refine ops_no rfl ?_
                  refine ops_no rfl ?_
                  refine nO115 ?_
                  refine ops_no rfl ?_
                  refine ops_no rfl ?_
                  refine ops_val (ex_pick_t rfl rfl) ?_
                  refine ops_nil ?_
                  refine nR115 ?_
                  refine run_cond_true rfl ?_
                  refine run_seq ?_
                  refine run_region ?_
                  refine ops_val (ex_assign rfl) ?_
                  refine ops_val (ex_assign rfl) ?_
                  refine ops_nil ?_
                  refine nR115 ?_
                  refine run_ret ?_
                  refine blk_ret ?_
                  refine rnd_ret ?_
                  refine blk_ret ?_
                  refine fin_ret2 rfl rfl rfl ?_
                  exact ⟨_, _, rfl, Ans.no (chk_f3 (by rw [hinv]; exact ent_no hx fun hh => by omega)), H4.noRows⟩
                · skip
                  refine ops_val (ex_move rfl) ?_
                  refine nO115 ?_
                  refine ops_yes rfl ?_
                  refine ops_val (ex_fieldAddr fl44_0 rfl) ?_
                  refine ops_yes rfl ?_
                  refine ops_val (ex_load ty3 rfl (H4.cell (i := 1) rfl rfl)) ?_
                  refine nO115 ?_
                  refine ops_yes rfl ?_
                  refine ops_test (ex_gtr rfl rfl) (fun hp88 => ?_) (fun hp88 => ?_)
                  · skip
                    refine ops_val (ex_pick_f rfl rfl) ?_
                    refine ops_val (ex_move rfl) ?_
                    refine nO115 ?_
                    refine ops_no rfl ?_
                    refine ops_no rfl ?_
                    refine nO115 ?_
                    refine ops_no rfl ?_
                    refine ops_no rfl ?_
                    refine ops_val (ex_pick_t rfl rfl) ?_
                    refine ops_nil ?_
                    refine nR115 ?_
                    refine run_cond_true rfl ?_
                    refine run_seq ?_
                    refine run_region ?_
                    refine ops_val (ex_assign rfl) ?_
                    refine ops_val (ex_assign rfl) ?_
                    refine ops_nil ?_
                    refine nR115 ?_
                    refine run_ret ?_
                    refine blk_ret ?_
                    refine rnd_ret ?_
                    refine blk_ret ?_
                    refine fin_ret2 rfl rfl rfl ?_
                    exact ⟨_, _, rfl, Ans.no (chk_f3 (by rw [hinv]; exact ent_no hx fun hh => by omega)), H4.noRows⟩
                  · skip
                    refine ops_val (ex_pick_f rfl rfl) ?_
                    refine ops_val (ex_move rfl) ?_
                    refine nO115 ?_
                    refine ops_yes rfl ?_
                    refine ops_val (ex_fieldAddr fl44_1 rfl) ?_
                    refine ops_yes rfl ?_
                    refine ops_val (ex_load ty36 rfl (H4.cell (i := 1) rfl rfl)) ?_
                    refine nO115 ?_
                    refine ops_yes rfl ?_
                    refine ops_val (ex_len_slice Try.underlying36 rfl) ?_
                    refine ops_yes rfl ?_
                    refine ops_test (ex_gtr rfl rfl) (fun hp94 => ?_) (fun hp94 => ?_)
                    · skip
                      refine ops_val (ex_pick_f rfl rfl) ?_
                      refine ops_nil ?_
                      refine nR115 ?_
                      refine run_cond_true rfl ?_
                      refine run_seq ?_
                      refine run_region ?_
                      refine ops_val (ex_assign rfl) ?_
                      refine ops_val (ex_assign rfl) ?_
                      refine ops_nil ?_
                      refine nR115 ?_
                      refine run_ret ?_
                      refine blk_ret ?_
                      refine rnd_ret ?_
                      refine blk_ret ?_
                      refine fin_ret2 rfl rfl rfl ?_
                      exact ⟨_, _, rfl, Ans.no (chk_f3 (by rw [hinv]; exact ent_no hx fun hh => by omega)), H4.noRows⟩
                    · skip
                      refine ops_val (ex_pick_f rfl rfl) ?_
                      refine ops_nil ?_
                      refine nR115 ?_
                      refine run_cond_false rfl ?_
                      refine run_skip ?_
                      refine run_nil (blk_normal ?_)
                      refine run_region ?_
                      refine ops_val (ex_add rfl rfl (IntWalk.i64_in _ (by omega))) ?_
                      refine ops_val (ex_move rfl) ?_
                      refine ops_nil ?_
                      refine nR115 ?_
                      refine run_nil (rnd_normal ?_)
                      have hgo := ent_go (m := s.index + i) hx ⟨by omega, by omega, by omega⟩
                      exact ⟨s.entries.length - (i + 1), by omega, i + 1, _, rfl, (fn (fs (fn (fn (fn (fs (fn (fn (fn (fn (fn (fn (fn (fn (fn (fn (fn (fn (fn (fn (fn (fn (fn (fn (fn (fn (fn (fn (fn (fn (fn (fn (fn (fn (fn (fn (fn (fn (fn (fn (fn (fn (fn (fn (fn (fn (fn (fn (fn (fn (fn (fn (fn (fn (fn (fn (fn (fn (fn (fn (fn (fn (fn (fn (fn (fn (fn (fn (fn (fn (fs (fs (fs (fn (fn (fn (fn (fn (fn (fn (fn (fn (fn (fn (fn (fn (fn (fn (fn (fn (fn (fn (fn (fn (fn (fn (fn (fn (fn (fn (fn (fn (fn (fn (fn (fn (fn (fn (fn (fn (fn (fn (fn (fn (fn f0))))))))))))))))))))))))))))))))))))))))))))))))))))))))))))))))))))))))))))))))))))))))))))))))))))))))))))))))))), by omega, by omega, by rw [hinv, hgo]; congr 1; omega, H4.pick [0] (by decide)⟩
              · obtain rfl : i = s.entries.length := by omega
                have hent := hinv.trans ent_end
                refine ops_nil ?_
                refine nR115 ?_
                refine run_seq ?_
                refine run_cond_false rfl ?_
                refine run_exit ?_
                refine rnd_exit ?_
                refine blk_exit ?_
                refine run_seq ?_
                refine run_region ?_
                refine ops_val (ex_fieldAddr fl39_0 rfl) ?_
                refine ops_val (ex_loadN ty34 rfl (vs := [.int .i64 s.p.r, .int .i64 s.p.n]) rfl (H2.cellsR (i := 0) rfl rfl)) ?_
                refine ops_val (ex_fieldAddr fl39_2 rfl) ?_
                refine ops_val (ex_load ty3 rfl (H2.cell (i := 0) rfl rfl)) ?_
                refine nO115 ?_
                refine ops_val (ex_fieldAddr fl39_4 rfl) ?_
                refine ops_val (ex_load ty37 rfl (H2.cell (i := 0) rfl rfl)) ?_
                refine ops_val (ex_len_slice Try.underlying37 rfl) ?_
                refine ops_val (ex_add rfl rfl (IntWalk.i64_in _ (by omega))) ?_
                refine nO115 ?_
                refine ops_val (ex_add rfl rfl (IntWalk.i64_in _ (by omega))) ?_
                refine ops_val (ex_fieldAddr fl39_1 rfl) ?_
                refine ops_val (ex_load ty35 rfl (H2.cell (i := 0) rfl rfl)) ?_
                refine ops_call (ex_call gf47 rfl) (load_a s.p (s.index + s.entries.length + 1) A1 k1 s.votes ok _ (hv1.toV H2 k0) (by omega)) ?_
                rintro _ w3 ⟨v, e, rfl, hans, Hd⟩
                have H3 := H2.callN Hd
                rw [← chk_ld (by omega) (by omega) hent] at hans
                refine nO115 ?_
                refine ops_val (ex_move rfl) ?_
                refine ops_val (ex_extract rfl rfl) ?_
                refine ops_val (ex_extract rfl rfl) ?_
                refine ops_val (ex_assign rfl) ?_
                refine nO115 ?_
                refine ops_val (ex_assign rfl) ?_
                refine ops_nil ?_
                refine nR115 ?_
                refine run_seq ?_
                refine run_seq ?_
                refine run_region ?_
                refine ops_val (ex_move rfl) ?_
                refine ops_test (ex_neq rfl rfl) (fun hp113 => ?_) (fun hp113 => ?_)
                · skip
                  refine ops_nil ?_
                  refine nR115 ?_
                  refine run_cond_true rfl ?_
                  refine run_seq ?_
                  refine run_region ?_
                  refine ops_val (ex_assign rfl) ?_
                  refine ops_val (ex_assign rfl) ?_
                  refine ops_nil ?_
                  refine nR115 ?_
                  refine run_ret ?_
                  refine fin_ret2 rfl rfl rfl ?_
                  exact ⟨_, _, rfl, Ans.no (by cases hc : chk s with | false => rfl | true => exact absurd (hans.1 hc) hp113), H3.noRows⟩
                · skip
                  refine ops_nil ?_
                  refine nR115 ?_
                  refine run_cond_false rfl ?_
                  refine run_skip ?_
                  refine run_seq ?_
                  refine run_region ?_
                  refine ops_val (ex_move rfl) ?_
                  refine ops_val (ex_assign rfl) ?_
                  refine ops_val (ex_assign rfl) ?_
                  refine ops_nil ?_
                  refine nR115 ?_
                  refine run_ret ?_
                  refine fin_ret2 rfl rfl rfl ?_
                  exact ⟨_, _, rfl, Ans.ok (by cases hc : chk s with | true => rfl | false => have := hans.2 hc; omega), H3.noRows⟩
set_option maxRecDepth 100000 in
set_option maxHeartbeats 4000000 in
theorem check_p (s : Sv) (A1 : Option Addr) (k1 : Nat) (A2 : Option Addr) (k2 : Nat) (A3 : Option Addr) (k3 : Nat) (ok : Nat → Prop) (w0 : World) (hv1 : Sl (VtR w0 ok) 4 w0 ok A1 s.votes) (hv2 : Bs w0 ok A2 s.image) (hv3 : Sl (EnR w0 ok) 2 w0 ok A3 s.entries) (hvl : s.votes.length ≤ 1000000000000000000) (hel2 : s.entries.length ≤ 1000000000000000000) :
    Does Try.prog 11 #[.int .i64 1, .int .i64 5, .agg [.int .i64 s.p.r, .int .i64 s.p.n, .slice A1 s.votes.length k1, .int .i64 s.index, .slice A2 s.image.length k2, .slice A3 s.entries.length k3].toArray] w0 (fun r w' => ∃ e : Int, r = .int .i64 e ∧ Ans (chk s) e ∧ Hp w0 w' [] []) := by
  refine does_of Try.func11 Try.ntmps11 rfl ?_
  refine nR17 ?_
  have H := Hp.refl w0
  refine run_seq ?_
  refine run_region ?_
  refine ops_box rfl rfl H ?_
  intro w1 g1 H1 hg1
  refine ops_val (ex_assign rfl) ?_
  refine ops_nil ?_
  refine nR17 ?_
  refine run_seq ?_
  refine run_region ?_
  refine ops_val (ex_move rfl) ?_
  refine ops_val (ex_move rfl) ?_
  refine ops_val (ex_loadN ty39 rfl (vs := [.int .i64 s.p.r, .int .i64 s.p.n, .slice A1 s.votes.length k1, .int .i64 s.index, .slice A2 s.image.length k2, .slice A3 s.entries.length k3]) rfl (H1.cellsR (i := 0) rfl rfl)) ?_
  refine ops_call (ex_call gf23 rfl) (load_p s A1 k1 A2 k2 A3 k3 ok _ (hv1.toV H1 k0) (hv2.to H1 k0) (hv3.toE H1 k0) hvl hel2) ?_
  rintro _ w2 ⟨v, e, rfl, hans, Hd⟩
  have H2 := H1.callN Hd
  refine nO17 ?_
  refine ops_val (ex_move rfl) ?_
  refine ops_val (ex_extract rfl rfl) ?_
  refine ops_val (ex_extract rfl rfl) ?_
  refine ops_val (ex_assign rfl) ?_
  refine nO17 ?_
  refine ops_val (ex_assign rfl) ?_
  refine ops_nil ?_
  refine nR17 ?_
  refine run_seq ?_
  refine run_region ?_
  refine ops_val (ex_move rfl) ?_
  refine ops_val (ex_assign rfl) ?_
  refine ops_nil ?_
  refine nR17 ?_
  refine run_ret ?_
  refine fin_ret1 rfl rfl ?_
  exact ⟨_, rfl, hans, H2.noRows⟩
end Go.Proofs.Ytbninklfoogmdaa
