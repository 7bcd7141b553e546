/-
  Parts of the walk, one behind the other.
-/
import Derived.Test.YtjoeklkmnfaabaaGreatK4
/- Walks of layer 2, printed by wip/gen/codec.py. -/
namespace Go.Proofs.YtjoeklkmnfaabaaGreat
open Go Go.RowKit
set_option linter.unusedVariables false
attribute [local irreducible] Still Ops Does Cd
set_option maxRecDepth 100000 in
set_option maxHeartbeats 32000000 in
theorem spent_v (gb : Nat) (b : Bo) (A1 : Option Addr) (k1 : Nat) (A2 : Option Addr) (k2 : Nat) (A3 : Option Addr) (k3 : Nat) (n : Nt) (B1 : Option Addr) (j1 : Nat) (B2 : Option Addr) (j2 : Nat) (N : Nat) (w0 : World) (hrow : w0.heap[gb]? = some (.cells [.slice A1 b.groups.length k1, .slice A2 b.rights.length k2, .slice A3 b.last.length k3].toArray 41 (0, 0))) (ok : Nat → Prop) (hok : ¬ ok gb) (hb1 : Sl (SvR w0 ok) 6 w0 ok A1 b.groups) (hb2 : Sl RtR 4 w0 ok A2 b.rights) (hb3 : Sl MkR 7 w0 ok A3 b.last) (hg : Good b N) (hN : N ≤ 900000000000) :
    Does Tryz.prog 66 #[.pointer (some ⟨gb, 0, none⟩), .agg [.int .i64 n.kind, .int .i64 n.group, .int .i64 n.b.r, .int .i64 n.b.n, .int .i64 n.vote.slot, .int .i64 n.vote.b.r, .int .i64 n.vote.b.n, .slice B1 n.vote.val.length j1, .int .i64 n.entry.slot, .slice B2 n.entry.val.length j2, .int .i64 n.right.g, strV n.right.key, .int .i64 n.right.lease, .int .i64 n.right.net, .int .i64 n.client, .int .i64 n.seq].toArray] w0 (fun r w' => (mayR n.right → r = .bool true ∧ ∃ cs', Hp w0 w' [gb] [((some gb, 41, cs') : Ent)] ∧ BoR w' (up ok w0.heap.size) cs' { b with rights := putRt b.rights n.right, last := spend b.last n.client n.seq }) ∧ (¬ mayR n.right → r = .bool false ∧ Hp w0 w' [gb] [])) := by
  refine does_of Tryz.func66 Tryz.ntmps66 rfl ?_
  refine nR98 ?_
  have H := Hp.old hrow
  have hks := up_k (n := w0.heap.size) (ok := ok) (S := [gb]) fun x hx hg => hok (by rw [← List.mem_singleton.1 hg]; exact hx)
  have hml := mks_len hg.mks
  have hrl := hg.few
  obtain ⟨pm, hpm, hrm, ham, hm2⟩ := id hb3
  have hplen := hm2.len
  have hon := hm2.ones fun _ _ h => h.ones
  refine run_seq ?_
  refine run_region ?_
  refine ops_box rfl rfl H ?_
  intro w1 g1 H1 hg1
  refine ops_val (ex_assign rfl) ?_
  refine ops_nil ?_
  refine nR98 ?_
  refine run_seq ?_
  refine run_mixZ 11 [(true, 0), (true, 1), (true, 2), (true, 3), (true, 4), (true, 5), (false, 6), (true, 7), (true, 8), (true, 9), (true, 10), (false, 11)] H1 [0, 1] mixed (by decide) (by kernel_rfl) ?_
  rintro w2 hw2
  have H2 := Hp.drew H1; rw [← hw2] at H2
  refine mixz_p rfl ?_
  refine mix1_val (fun wz hz => ex_move rfl) ?_
  refine mixz_p rfl ?_
  refine mix1_val (fun wz hz => ex_nilCheck rfl) ?_
  refine mixz_p rfl ?_
  refine mix1_val (fun wz hz => ex_fieldAddr fl41_1 rfl) ?_
  refine mixz_p rfl ?_
  refine mix1_val (fun wz hz => ex_load ty38 rfl (hz.cell (i := 0) rfl rfl)) ?_
  refine nZ98 ?_
  refine mixz_p rfl ?_
  refine mix1_val (fun wz hz => ex_fieldAddr fl81_5 rfl) ?_
  refine mixz_p rfl ?_
  refine mix1_val (fun wz hz => ex_loadN ty35 rfl (vs := [.int .i64 n.right.g, strV n.right.key, .int .i64 n.right.lease, .int .i64 n.right.net]) rfl (hz.cellsR (i := 1) rfl rfl)) ?_
  refine mixz_o rfl ?_
  have hnb := Hp.fresh H2
  have hszj := H2.size
  refine ops_call (ex_call gf111 rfl) (put_l n.right A2 k2 b.rights (up ok w0.heap.size) _ (hb2.toR H2 hks) (by omega) hg.rts) ?_
  rintro r w3 ⟨hyes, hno, Hd⟩
  have H3 := H2.callN Hd
  by_cases hmay : mayR n.right
  · obtain ⟨A9, k9, rfl, hS9⟩ := hyes hmay
    refine ops_nil ?_
    refine ⟨fun hne => H3.pick [0, 1] (by decide), ?_⟩
    refine mixz_p rfl ?_
    refine mix1_val (fun wz hz => ex_move rfl) ?_
    refine mixz_p rfl ?_
    refine mix1_val (fun wz hz => ex_extract rfl rfl) ?_
    refine nZ98 ?_
    refine mixz_p rfl ?_
    refine mix1_val (fun wz hz => ex_extract rfl rfl) ?_
    refine mixz_p rfl ?_
    refine mix1_val (fun wz hz => ex_assign rfl) ?_
    refine mixz_o rfl ?_
    refine ops_val (ex_assign rfl) ?_
    refine ops_nil ?_
    refine ⟨fun hne => absurd rfl hne, ?_⟩
    refine nZ98 ?_
    refine mixz_nil ?_
    refine nR98 ?_
    refine run_seq ?_
    refine run_seq ?_
    refine run_region ?_
    refine ops_val (ex_move rfl) ?_
    refine ops_false (ex_neq rfl rfl) (by decide) ?_
    refine ops_nil ?_
    refine nR98 ?_
    refine run_cond_false rfl ?_
    refine run_skip ?_
    refine run_seq ?_
    refine run_region ?_
    refine ops_val (ex_move rfl) ?_
    refine ops_val (ex_move rfl) ?_
    refine ops_val (ex_nilCheck rfl) ?_
    refine ops_val (ex_fieldAddr fl41_1 rfl) ?_
    refine nO98 ?_
    have HB := H3
    replace H3 := HB.here
    refine ops_store1 ty38 H3 0 rfl rfl rfl rfl (by first | (simp; done) | simp [putAt]) rfl ?_
    intro w4 H4
    refine ops_nil ?_
    refine nR98 ?_
    refine run_seq ?_
    refine run_seq ?_
    refine run_region ?_
    refine ops_val (ex_fieldAddr fl81_6 rfl) ?_
    refine ops_val (ex_load ty3 rfl (H4.cell (i := 1) rfl rfl)) ?_
    refine ops_test (ex_lss rfl rfl) (fun hp29 => ?_) (fun hp29 => ?_)
    · skip
      refine ops_val (ex_move rfl) ?_
      refine nO98 ?_
      refine ops_no rfl ?_
      refine ops_no rfl ?_
      refine nO98 ?_
      refine ops_no rfl ?_
      refine ops_val (ex_pick_t rfl rfl) ?_
      refine ops_val (ex_move rfl) ?_
      refine nO98 ?_
      refine ops_no rfl ?_
      refine ops_no rfl ?_
      refine nO98 ?_
      refine ops_no rfl ?_
      refine ops_val (ex_pick_t rfl rfl) ?_
      refine ops_val (ex_move rfl) ?_
      refine nO98 ?_
      refine ops_no rfl ?_
      refine ops_no rfl ?_
      refine nO98 ?_
      refine ops_no rfl ?_
      refine ops_val (ex_pick_t rfl rfl) ?_
      refine ops_nil ?_
      refine nR98 ?_
      refine run_cond_true rfl ?_
      refine run_seq ?_
      refine run_region ?_
      refine ops_val (ex_assign rfl) ?_
      refine ops_nil ?_
      refine nR98 ?_
      refine run_ret ?_
      refine fin_ret1 rfl rfl ?_
      have HW := HB.all H4
      refine ⟨fun _ => ⟨rfl, _, HW.pick [0] (by decide), A1, k1, A9, k9, A3, k3, by rw [spend_no (by omega)]; rfl, hb1.toS HW hks, hS9.toR H4 (fun x hx _ => ⟨hnb x hx, .inr (by omega)⟩), ?_⟩, fun h => absurd hmay h⟩
      rw [spend_no (by omega)]
      exact hb3.toM HW hks
    · skip
      refine ops_val (ex_move rfl) ?_
      refine nO98 ?_
      refine ops_yes rfl ?_
      refine ops_val (ex_fieldAddr fl81_6 rfl) ?_
      refine ops_yes rfl ?_
      refine ops_val (ex_load ty3 rfl (H4.cell (i := 1) rfl rfl)) ?_
      refine nO98 ?_
      refine ops_yes rfl ?_
      refine ops_test (ex_gtr rfl rfl) (fun hp33 => ?_) (fun hp33 => ?_)
      · skip
        refine ops_val (ex_pick_f rfl rfl) ?_
        refine ops_val (ex_move rfl) ?_
        refine nO98 ?_
        refine ops_no rfl ?_
        refine ops_no rfl ?_
        refine nO98 ?_
        refine ops_no rfl ?_
        refine ops_val (ex_pick_t rfl rfl) ?_
        refine ops_val (ex_move rfl) ?_
        refine nO98 ?_
        refine ops_no rfl ?_
        refine ops_no rfl ?_
        refine nO98 ?_
        refine ops_no rfl ?_
        refine ops_val (ex_pick_t rfl rfl) ?_
        refine ops_nil ?_
        refine nR98 ?_
        refine run_cond_true rfl ?_
        refine run_seq ?_
        refine run_region ?_
        refine ops_val (ex_assign rfl) ?_
        refine ops_nil ?_
        refine nR98 ?_
        refine run_ret ?_
        refine fin_ret1 rfl rfl ?_
        have HW := HB.all H4
        refine ⟨fun _ => ⟨rfl, _, HW.pick [0] (by decide), A1, k1, A9, k9, A3, k3, by rw [spend_no (by omega)]; rfl, hb1.toS HW hks, hS9.toR H4 (fun x hx _ => ⟨hnb x hx, .inr (by omega)⟩), ?_⟩, fun h => absurd hmay h⟩
        rw [spend_no (by omega)]
        exact hb3.toM HW hks
      · skip
        refine ops_val (ex_pick_f rfl rfl) ?_
        refine ops_val (ex_move rfl) ?_
        refine nO98 ?_
        refine ops_yes rfl ?_
        refine ops_val (ex_fieldAddr fl81_7 rfl) ?_
        refine ops_yes rfl ?_
        refine ops_val (ex_load ty3 rfl (H4.cell (i := 1) rfl rfl)) ?_
        refine nO98 ?_
        refine ops_yes rfl ?_
        refine ops_test (ex_lss rfl rfl) (fun hp38 => ?_) (fun hp38 => ?_)
        · skip
          refine ops_val (ex_pick_f rfl rfl) ?_
          refine ops_val (ex_move rfl) ?_
          refine nO98 ?_
          refine ops_no rfl ?_
          refine ops_no rfl ?_
          refine nO98 ?_
          refine ops_no rfl ?_
          refine ops_val (ex_pick_t rfl rfl) ?_
          refine ops_nil ?_
          refine nR98 ?_
          refine run_cond_true rfl ?_
          refine run_seq ?_
          refine run_region ?_
          refine ops_val (ex_assign rfl) ?_
          refine ops_nil ?_
          refine nR98 ?_
          refine run_ret ?_
          refine fin_ret1 rfl rfl ?_
          have HW := HB.all H4
          refine ⟨fun _ => ⟨rfl, _, HW.pick [0] (by decide), A1, k1, A9, k9, A3, k3, by rw [spend_no (by omega)]; rfl, hb1.toS HW hks, hS9.toR H4 (fun x hx _ => ⟨hnb x hx, .inr (by omega)⟩), ?_⟩, fun h => absurd hmay h⟩
          rw [spend_no (by omega)]
          exact hb3.toM HW hks
        · skip
          refine ops_val (ex_pick_f rfl rfl) ?_
          refine ops_val (ex_move rfl) ?_
          refine nO98 ?_
          refine ops_yes rfl ?_
          refine ops_val (ex_fieldAddr fl81_7 rfl) ?_
          refine ops_yes rfl ?_
          refine ops_val (ex_load ty3 rfl (H4.cell (i := 1) rfl rfl)) ?_
          refine nO98 ?_
          refine ops_yes rfl ?_
          refine ops_test (ex_gtr rfl rfl) (fun hp43 => ?_) (fun hp43 => ?_)
          · skip
            refine ops_val (ex_pick_f rfl rfl) ?_
            refine ops_nil ?_
            refine nR98 ?_
            refine run_cond_true rfl ?_
            refine run_seq ?_
            refine run_region ?_
            refine ops_val (ex_assign rfl) ?_
            refine ops_nil ?_
            refine nR98 ?_
            refine run_ret ?_
            refine fin_ret1 rfl rfl ?_
            have HW := HB.all H4
            refine ⟨fun _ => ⟨rfl, _, HW.pick [0] (by decide), A1, k1, A9, k9, A3, k3, by rw [spend_no (by omega)]; rfl, hb1.toS HW hks, hS9.toR H4 (fun x hx _ => ⟨hnb x hx, .inr (by omega)⟩), ?_⟩, fun h => absurd hmay h⟩
            rw [spend_no (by omega)]
            exact hb3.toM HW hks
          · skip
            refine ops_val (ex_pick_f rfl rfl) ?_
            refine ops_nil ?_
            refine nR98 ?_
            refine run_cond_false rfl ?_
            refine run_skip ?_
            refine run_seq ?_
            refine run_seq ?_
            refine run_mixT 12 (.p 0 (.p 1 (.p 2 (.p 3 (.p 4 (.p 5 (.two 6 (.p 7 (.p 8 (.p 9 (.o 10 (.o 11 (.o 12 .nil)))))) 10 (.o 6 (.p 7 (.p 8 (.p 9 (.o 11 (.o 12 .nil))))))))))))) H4 [0, 1] mixed (by decide) (by kernel_rfl) ?_
            rintro w5 hw5
            have H5 := Hp.drew H4; rw [← hw5] at H5
            refine mixt_p rfl ?_
            refine mix1_val (fun wz hz => ex_move rfl) ?_
            refine mixt_p rfl ?_
            refine mix1_val (fun wz hz => ex_nilCheck rfl) ?_
            refine mixt_p rfl ?_
            refine mix1_val (fun wz hz => ex_fieldAddr fl41_2 rfl) ?_
            refine mixt_p rfl ?_
            refine mix1_val (fun wz hz => ex_load ty39 rfl (hz.cell (i := 0) rfl rfl)) ?_
            change MixT _ _ _ _ _ _ [_, _, _, _, _, _, _, _, _, _, _, _, _, _, _, _, _, _, _, _, _, _, _, _, _, _, _, _, _, _, _, _, _, _, _, _, _, _, _, _, _, _, _, _, _, _, _, _, _, _, _, _, _, _, _, _, _, _, _, _, _, _, _, _, _, _, _, _, _, _, _, _, _, _, _, _, _, _, _, _, _, _, _, _, _, _, _, _, _, _, _, _, _, _, _, _, _, _] _
            refine mixt_p rfl ?_
            refine mix1_val (fun wz hz => ex_fieldAddr fl81_6 rfl) ?_
            refine mixt_p rfl ?_
            refine mix1_val (fun wz hz => ex_load ty3 rfl (hz.cell (i := 1) rfl rfl)) ?_
            refine mixt_two ?_ ?_
            · skip
              refine mixt_o rfl ?_
              refine ops_call (ex_call gf112 rfl) (find_s A3 k3 b.last n.client (up ok w0.heap.size) _ (hb3.toM (HB.all H5) hks) (by omega) hg.mks) ?_
              rintro _ w6 ⟨mq, fq, rfl, hyq, hnq, Hd⟩
              have H6 := H5.callN Hd
              cases fq
              · skip
                refine ops_nil ?_
                refine ⟨fun hne => H6.pick [0, 1] (by decide), ?_⟩
                refine mixt_p rfl ?_
                refine mix1_val (fun wz hz => ex_move rfl) ?_
                refine mixt_p rfl ?_
                refine mix1_val (fun wz hz => ex_extract rfl rfl) ?_
                change MixT _ _ _ _ _ _ [_, _, _, _, _, _, _, _, _, _, _, _, _, _, _, _, _, _, _, _, _, _, _, _, _, _, _, _, _, _, _, _, _, _, _, _, _, _, _, _, _, _, _, _, _, _, _, _, _, _, _, _, _, _, _, _, _, _, _, _, _, _, _, _, _, _, _, _, _, _, _, _, _, _, _, _, _, _, _, _, _, _, _, _, _, _, _, _, _, _, _, _, _, _, _, _, _, _] _
                refine mixt_p rfl ?_
                refine mix1_val (fun wz hz => ex_extract rfl rfl) ?_
                refine mixt_o rfl ?_
                refine ops_alloc ty110 H6 ?_
                intro w7 g7 H7 hg7
                refine ops_nil ?_
                refine ⟨fun hne => H7.pick [0, 1] (by decide), ?_⟩
                change MixT _ _ _ _ _ _ [_, _, _, _, _, _, _, _, _, _, _, _, _, _, _, _, _, _, _, _, _, _, _, _, _, _, _, _, _, _, _, _, _, _, _, _, _, _, _, _, _, _, _, _, _, _, _, _, _, _, _, _, _, _, _, _, _, _, _, _, _, _, _, _, _, _, _, _, _, _, _, _, _, _, _, _, _, _, _, _, _, _, _, _, _, _, _, _, _, _, _, _, _, _, _, _, _, _] _
                refine mixt_o rfl ?_
                refine ops_store ty110 H7 2 rfl rfl rfl rfl rfl (by first | decide | (simp; done) | simp [putAt]) rfl ?_
                intro w8 H8
                refine ops_nil ?_
                refine ⟨fun hne => H8.pick [0, 1] (by decide), ?_⟩
                change MixT _ _ _ _ _ _ [_, _, _, _, _, _, _, _, _, _, _, _, _, _, _, _, _, _, _, _, _, _, _, _, _, _, _, _, _, _, _, _, _, _, _, _, _, _, _, _, _, _, _, _, _, _, _, _, _, _, _, _, _, _, _, _, _, _, _, _, _, _, _, _, _, _, _, _, _, _, _, _, _, _, _, _, _, _, _, _, _, _, _, _, _, _, _, _, _, _, _, _, _, _, _, _, _, _] _
                refine mixt_o rfl ?_
                refine ops_val (ex_assign rfl) ?_
                refine ops_nil ?_
                refine ⟨fun hne => absurd rfl hne, ?_⟩
                change MixT _ _ _ _ _ _ [_, _, _, _, _, _, _, _, _, _, _, _, _, _, _, _, _, _, _, _, _, _, _, _, _, _, _, _, _, _, _, _, _, _, _, _, _, _, _, _, _, _, _, _, _, _, _, _, _, _, _, _, _, _, _, _, _, _, _, _, _, _, _, _, _, _, _, _, _, _, _, _, _, _, _, _, _, _, _, _, _, _, _, _, _, _, _, _, _, _, _, _, _, _, _, _, _, _] _
                refine mixt_nil ?_
                refine nR98 ?_
                refine run_seq ?_
                refine run_region ?_
                refine ops_val (ex_move rfl) ?_
                refine ops_val (ex_move rfl) ?_
                refine nO98 ?_
                refine ops_no rfl ?_
                refine ops_no rfl ?_
                refine nO98 ?_
                refine ops_no rfl ?_
                refine ops_no rfl ?_
                refine nO98 ?_
                refine ops_no rfl ?_
                refine ops_val (ex_pick_f rfl rfl) ?_
                refine ops_nil ?_
                refine nR98 ?_
                refine run_cond_false rfl ?_
                refine run_skip ?_
                refine run_seq ?_
                refine run_region ?_
                refine ops_val (ex_move rfl) ?_
                refine ops_val (ex_nilCheck rfl) ?_
                refine ops_val (ex_fieldAddr fl41_2 rfl) ?_
                refine ops_val (ex_load ty39 rfl (H8.cell (i := 0) rfl rfl)) ?_
                refine nO98 ?_
                refine ops_call (ex_call gf89 rfl) (cloneM A3 b.last.length k3 pm.flatten _ (hrm.move (by decide) ham (HB.all H8) hks).1 (ones_flatten hon) (by omega)) ?_
                rintro _ w9 ⟨gv, cv, sv, rfl, hmv, hcv, hgv0, Hc⟩
                have H9 := H8.call0 Hc
                refine ops_val (ex_makeFunc rfl rfl) ?_
                refine ops_call (ex_call gf113 rfl) (deleteM gv cv b.last.length pm hplen sv 114 _ (mkIs n.client) _ (H9.pick [3] (by decide)).here hpm hon (by omega) (by omega) hcv (prd_spent hm2 (H9.at (i := 1) rfl) rfl) (row_not H9 (i := 1) (is := [3]) rfl (by decide))) ?_
                rintro _ w10 ⟨sv2, rfl, hl2, Hd⟩
                have H10 := (H9.callr [3] rfl Hd).pick [0, 1, 2, 4] (by decide)
                have hmf := hm2.filter (f := fun p => !mkIs n.client p) (g := fun x => !decide (x.client = n.client)) (fun p x h => mkIs_neq h)
                have hmfl := hmf.len
                have hpf : Pl 7 (pm.filter fun p => !mkIs n.client p) := hpm.sub fun x hx => (List.mem_filter.1 hx).1
                have hfl3 : (pm.filter fun p => !mkIs n.client p).length ≤ pm.length := List.length_filter_le _ _
                have honf : ∀ p ∈ (pm.filter fun p => !mkIs n.client p), p.all (·.oneCell') = true := fun x hx => hon x (List.mem_filter.1 hx).1
                have HC := H10
                refine ops_val (ex_assign rfl) ?_
                refine ops_nil ?_
                refine nR98 ?_
                refine run_seq ?_
                refine run_region ?_
                refine ops_val (ex_assign rfl) ?_
                refine ops_nil ?_
                refine nR98 ?_
                refine run_seq ?_
                refine run_block ?_
                refine run_loop (fun nQ lQ w => ∃ (i : Nat) (y : Int), (pm.filter fun p => !mkIs n.client p).length - i = nQ ∧ Fits [some (.pointer (some ⟨gb, 0, none⟩)), none, none, some (.pointer (some ⟨g1, 0, none⟩)), none, none, none, none, none, some (.slice (hd gv) (pm.filter fun p => !mkIs n.client p).length cv), some (.int .i64 y), none, none, none, none, none, none, none, none, none, none, none, none, none, none, none, none, none, none, none, none, none, none, none, none, none, none, none, none, none, none, none, none, none, none, none, none, none, none, none, none, none, none, none, none, none, none, none, none, none, none, none, none, none, none, none, none, none, none, none, none, none, none, none, none, none, none, none, none, none, none, none, none, none, none, none, none, none, none, none, none, none, none, none, none, none, none, none] lQ ∧ y = (i : Int) ∧ i ≤ (pm.filter fun p => !mkIs n.client p).length ∧ (∀ (k : Nat) (m : Mk), k < i → (b.last.filter fun x => !decide (x.client = n.client))[k]? = some m → m.client < n.client) ∧ Hp w10 w [] []) ((pm.filter fun p => !mkIs n.client p).length) ?_ ?_
                · exact ⟨0, _, rfl, (fs (fn (fn (fs (fn (fn (fn (fn (fn (fs (fs (fn (fn (fn (fn (fn (fn (fn (fn (fn (fn (fn (fn (fn (fn (fn (fn (fn (fn (fn (fn (fn (fn (fn (fn (fn (fn (fn (fn (fn (fn (fn (fn (fn (fn (fn (fn (fn (fn (fn (fn (fn (fn (fn (fn (fn (fn (fn (fn (fn (fn (fn (fn (fn (fn (fn (fn (fn (fn (fn (fn (fn (fn (fn (fn (fn (fn (fn (fn (fn (fn (fn (fn (fn (fn (fn (fn (fn (fn (fn (fn (fn (fn (fn (fn (fn (fn (fn f0)))))))))))))))))))))))))))))))))))))))))))))))))))))))))))))))))))))))))))))))))))))))))))))))))), rfl, Nat.zero_le _, (fun k m h => by omega), Hp.refl _⟩
                · rintro nQ lQ w11 ⟨i, y, rfl, hfit, rfl, hi, hlo, H11⟩
                  obtain ⟨j, rfl⟩ := hfit.open
                  refine nR98 ?_
                  clear hfit
                  refine run_seq ?_
                  refine run_seq ?_
                  refine run_still mixed (by kernel_rfl) ?_
                  rintro w12 hw12
                  have H12 := Hp.drew H11; rw [← hw12] at H12
                  refine still_val (ex_move rfl) ?_
                  refine still_val (ex_move rfl) ?_
                  refine still_val (ex_len_slice Tryz.underlying39 rfl) ?_
                  refine still_test (ex_lss rfl rfl) (fun hp73 => ?_) (fun hp73 => ?_)
                  · have hil : i < (pm.filter fun p => !mkIs n.client p).length := by omega
                    obtain ⟨p1, hp1⟩ := get_of hil
                    obtain ⟨x, hx, hR⟩ := hmf.getL hp1
                    unfold MkR at hR
                    subst hR
                    have hc0 : ((pm.filter fun p => !mkIs n.client p).flatten ++ sv2)[0 + i * 7 + 0]? = some (.int .i64 x.client) := by
                      have h1 := hpf.get hp1 (j := 0) (u := .int .i64 x.client) rfl
                      show (_ ++ _)[0 + i * 7 + 0]? = _
                      rw [Nat.zero_add, List.getElem?_append_left (lt_of_get h1)]; exact h1
                    obtain ⟨gz, rfl⟩ := own_some HC (i := 3) rfl (by have := lt_of_get hc0; omega)
                    refine still_val (ex_move rfl) ?_
                    refine nS98 ?_
                    refine still_yes rfl ?_
                    refine still_val (ex_move rfl) ?_
                    refine still_yes rfl ?_
                    refine still_val (ex_move rfl) ?_
                    refine nS98 ?_
                    refine still_yes rfl ?_
                    refine still_val (ex_idxN Tryz.underlying39 ty110 rfl rfl rfl hil) ?_
                    refine still_yes rfl ?_
                    refine still_val (ex_fieldAddr fl110_0 rfl) ?_
                    refine nS98 ?_
                    refine still_yes rfl ?_
                    refine still_val (ex_load ty3 rfl ((HC.callN H12).cell (i := 3) rfl hc0)) ?_
                    refine still_yes rfl ?_
                    refine still_val (ex_fieldAddr fl81_6 rfl) ?_
                    refine nS98 ?_
                    refine still_yes rfl ?_
                    refine still_val (ex_load ty3 rfl ((HC.callN H12).cell (i := 1) rfl rfl)) ?_
                    refine still_yes rfl ?_
                    refine still_test (ex_lss rfl rfl) (fun hp82 => ?_) (fun hp82 => ?_)
                    · skip
                      refine still_val (ex_pick_t rfl rfl) ?_
                      refine still_nil ?_
                      refine nR98 ?_
                      refine run_cond_true rfl ?_
                      refine run_skip ?_
                      refine run_block ?_
                      refine run_region ?_
                      refine ops_val (ex_move rfl) ?_
                      refine ops_val (ex_add rfl rfl (IntWalk.i64_in _ (by omega))) ?_
                      refine ops_val (ex_assign rfl) ?_
                      refine ops_nil ?_
                      refine nR98 ?_
                      refine run_nil (blk_normal ?_)
                      refine run_nil (rnd_normal ?_)
                      exact ⟨(pm.filter fun p => !mkIs n.client p).length - (i + 1), by omega, i + 1, _, rfl, (fs (fn (fn (fs (fn (fn (fn (fn (fn (fs (fs (fn (fn (fn (fn (fn (fn (fn (fn (fn (fn (fn (fn (fn (fn (fn (fn (fn (fn (fn (fn (fn (fn (fn (fn (fn (fn (fn (fn (fn (fn (fn (fn (fn (fn (fn (fn (fn (fn (fn (fn (fn (fn (fn (fn (fn (fn (fn (fn (fn (fn (fn (fn (fn (fn (fn (fn (fn (fn (fn (fn (fn (fn (fn (fn (fn (fn (fn (fn (fn (fn (fn (fn (fn (fn (fn (fn (fn (fn (fn (fn (fn (fn (fn (fn (fn (fn (fn f0)))))))))))))))))))))))))))))))))))))))))))))))))))))))))))))))))))))))))))))))))))))))))))))))))), by omega, by omega, fun k m hk hm => by
                        rcases Nat.lt_or_eq_of_le (show k ≤ i by omega) with h | rfl
                        · exact hlo k m h hm
                        · rw [hx] at hm
                          simp only [Option.some.injEq] at hm
                          subst hm; exact hp82, H12⟩
                    · skip
                      refine still_val (ex_pick_t rfl rfl) ?_
                      refine still_nil ?_
                      refine nR98 ?_
                      refine run_cond_false rfl ?_
                      refine run_exit ?_
                      refine rnd_exit ?_
                      refine blk_exit ?_
                      refine run_seq ?_
                      refine run_region ?_
                      replace H12 := HC.callN H12
                      refine ops_val (ex_move rfl) ?_
                      refine ops_val (ex_move rfl) ?_
                      refine ops_val (ex_move rfl) ?_
                      refine ops_val (ex_fieldAddr fl81_6 rfl) ?_
                      refine nO98 ?_
                      refine ops_val (ex_load ty3 rfl (H12.cell (i := 1) rfl rfl)) ?_
                      refine ops_val (ex_fieldAddr fl81_7 rfl) ?_
                      refine ops_val (ex_load ty3 rfl (H12.cell (i := 1) rfl rfl)) ?_
                      refine ops_val (ex_build ty110 pl110 rfl rfl) ?_
                      refine nO98 ?_
                      refine ops_buildSlice Tryz.underlying39 ty110 H12 rfl (by decide) rfl ?_
                      intro w13 g13 H13 hg13
                      refine ops_call (ex_call gf115 rfl) (insertM _ cv i _ (pm.filter fun p => !mkIs n.client p).length (pm.filter fun p => !mkIs n.client p) rfl (mkC ⟨n.client, n.seq⟩) sv2 _ (H13.pick [3] (by decide)).here hpf honf (by omega) (by rw [hl2]; exact hcv) hgv0 (by omega) (H13.at (i := 4) rfl) rfl rfl (row_not H13 (i := 4) (is := [3]) rfl (by decide)) (by omega)) ?_
                      rintro _ w14 ⟨gw, cw, sw, rfl, hnw, hcw, hgw, Hd⟩
                      have H14 := (H13.callr [3] rfl Hd).pick [0, 1, 2, 5] (by decide)
                      refine ops_val (ex_nilCheck rfl) ?_
                      refine ops_val (ex_fieldAddr fl41_2 rfl) ?_
                      refine nO98 ?_
                      refine ops_store1 ty39 H14 0 rfl rfl rfl rfl (by first | (simp; done) | simp [putAt]) rfl ?_
                      intro w15 H15
                      refine ops_nil ?_
                      refine nR98 ?_
                      refine run_seq ?_
                      refine run_region ?_
                      refine ops_val (ex_assign rfl) ?_
                      refine ops_nil ?_
                      refine nR98 ?_
                      refine run_ret ?_
                      refine fin_ret1 rfl rfl ?_
                      have HW := HB.all H15
                      have hput := putMk_del (v := ⟨n.client, n.seq⟩) (i := i) (mks_rise hg.mks).2 (by rw [← hmfl]; omega) hlo (.inr ⟨x, hx, hp82⟩)
                      have hsp : spend b.last n.client n.seq = putMk b.last ⟨n.client, n.seq⟩ := spend_new (by omega) (hnq rfl)
                      rw [← hput] at hsp
                      have hln : ((b.last.filter fun x => !decide (x.client = n.client)).take i ++ (⟨n.client, n.seq⟩ : Mk) :: (b.last.filter fun x => !decide (x.client = n.client)).drop i).length = (pm.filter fun p => !mkIs n.client p).length + 1 := by rw [List.length_append, List.length_cons, List.length_take, List.length_drop, ← hmfl]; omega
                      refine ⟨fun _ => ⟨rfl, _, HW.pick [0] (by decide), A1, k1, A9, k9, hd gw, cw, by rw [hsp, hln]; rfl, hb1.toS HW hks, hS9.toR H15 (fun x hx _ => ⟨hnb x hx, .inr (by omega)⟩), ?_⟩, fun h => absurd hmay h⟩
                      rw [hsp]
                      exact Sl.row HW (i := 3) rfl ((hpf.sub fun x hx => List.mem_of_mem_take hx).app fun x hx => by
                        rcases List.mem_cons.1 hx with rfl | hx
                        · rfl
                        · exact hpf x (List.mem_of_mem_drop hx)) (by decide) ((hmf.take i).app ⟨rfl, hmf.drop i⟩) (fun b hb => row_new (ok := ok) HW (i := 3) rfl (fun c hc => by rw [List.mem_singleton.1 hc]; exact fun e => HW.ne (i := 3) (j := 0) (g := gb) (by rw [e]; rfl) rfl (by decide) rfl) b hb)
                  · skip
                    refine still_val (ex_move rfl) ?_
                    refine nS98 ?_
                    refine still_no rfl ?_
                    refine still_no rfl ?_
                    refine nS98 ?_
                    refine still_no rfl ?_
                    refine still_no rfl ?_
                    refine nS98 ?_
                    refine still_no rfl ?_
                    refine still_no rfl ?_
                    refine nS98 ?_
                    refine still_no rfl ?_
                    refine still_no rfl ?_
                    refine still_val (ex_pick_f rfl rfl) ?_
                    refine still_nil ?_
                    refine nR98 ?_
                    refine run_cond_false rfl ?_
                    refine run_exit ?_
                    refine rnd_exit ?_
                    refine blk_exit ?_
                    refine run_seq ?_
                    refine run_region ?_
                    replace H12 := HC.callN H12
                    refine ops_val (ex_move rfl) ?_
                    refine ops_val (ex_move rfl) ?_
                    refine ops_val (ex_move rfl) ?_
                    refine ops_val (ex_fieldAddr fl81_6 rfl) ?_
                    refine nO98 ?_
                    refine ops_val (ex_load ty3 rfl (H12.cell (i := 1) rfl rfl)) ?_
                    refine ops_val (ex_fieldAddr fl81_7 rfl) ?_
                    refine ops_val (ex_load ty3 rfl (H12.cell (i := 1) rfl rfl)) ?_
                    refine ops_val (ex_build ty110 pl110 rfl rfl) ?_
                    refine nO98 ?_
                    refine ops_buildSlice Tryz.underlying39 ty110 H12 rfl (by decide) rfl ?_
                    intro w13 g13 H13 hg13
                    refine ops_call (ex_call gf115 rfl) (insertM _ cv i _ (pm.filter fun p => !mkIs n.client p).length (pm.filter fun p => !mkIs n.client p) rfl (mkC ⟨n.client, n.seq⟩) sv2 _ (H13.pick [3] (by decide)).here hpf honf (by omega) (by rw [hl2]; exact hcv) hgv0 (by omega) (H13.at (i := 4) rfl) rfl rfl (row_not H13 (i := 4) (is := [3]) rfl (by decide)) (by omega)) ?_
                    rintro _ w14 ⟨gw, cw, sw, rfl, hnw, hcw, hgw, Hd⟩
                    have H14 := (H13.callr [3] rfl Hd).pick [0, 1, 2, 5] (by decide)
                    refine ops_val (ex_nilCheck rfl) ?_
                    refine ops_val (ex_fieldAddr fl41_2 rfl) ?_
                    refine nO98 ?_
                    refine ops_store1 ty39 H14 0 rfl rfl rfl rfl (by first | (simp; done) | simp [putAt]) rfl ?_
                    intro w15 H15
                    refine ops_nil ?_
                    refine nR98 ?_
                    refine run_seq ?_
                    refine run_region ?_
                    refine ops_val (ex_assign rfl) ?_
                    refine ops_nil ?_
                    refine nR98 ?_
                    refine run_ret ?_
                    refine fin_ret1 rfl rfl ?_
                    have HW := HB.all H15
                    have hput := putMk_del (v := ⟨n.client, n.seq⟩) (i := i) (mks_rise hg.mks).2 (by rw [← hmfl]; omega) hlo (.inl (by rw [← hmfl]; omega))
                    have hsp : spend b.last n.client n.seq = putMk b.last ⟨n.client, n.seq⟩ := spend_new (by omega) (hnq rfl)
                    rw [← hput] at hsp
                    have hln : ((b.last.filter fun x => !decide (x.client = n.client)).take i ++ (⟨n.client, n.seq⟩ : Mk) :: (b.last.filter fun x => !decide (x.client = n.client)).drop i).length = (pm.filter fun p => !mkIs n.client p).length + 1 := by rw [List.length_append, List.length_cons, List.length_take, List.length_drop, ← hmfl]; omega
                    refine ⟨fun _ => ⟨rfl, _, HW.pick [0] (by decide), A1, k1, A9, k9, hd gw, cw, by rw [hsp, hln]; rfl, hb1.toS HW hks, hS9.toR H15 (fun x hx _ => ⟨hnb x hx, .inr (by omega)⟩), ?_⟩, fun h => absurd hmay h⟩
                    rw [hsp]
                    exact Sl.row HW (i := 3) rfl ((hpf.sub fun x hx => List.mem_of_mem_take hx).app fun x hx => by
                      rcases List.mem_cons.1 hx with rfl | hx
                      · rfl
                      · exact hpf x (List.mem_of_mem_drop hx)) (by decide) ((hmf.take i).app ⟨rfl, hmf.drop i⟩) (fun b hb => row_new (ok := ok) HW (i := 3) rfl (fun c hc => by rw [List.mem_singleton.1 hc]; exact fun e => HW.ne (i := 3) (j := 0) (g := gb) (by rw [e]; rfl) rfl (by decide) rfl) b hb)
              · skip
                refine ops_nil ?_
                refine ⟨fun hne => H6.pick [0, 1] (by decide), ?_⟩
                refine mixt_p rfl ?_
                refine mix1_val (fun wz hz => ex_move rfl) ?_
                refine mixt_p rfl ?_
                refine mix1_val (fun wz hz => ex_extract rfl rfl) ?_
                change MixT _ _ _ _ _ _ [_, _, _, _, _, _, _, _, _, _, _, _, _, _, _, _, _, _, _, _, _, _, _, _, _, _, _, _, _, _, _, _, _, _, _, _, _, _, _, _, _, _, _, _, _, _, _, _, _, _, _, _, _, _, _, _, _, _, _, _, _, _, _, _, _, _, _, _, _, _, _, _, _, _, _, _, _, _, _, _, _, _, _, _, _, _, _, _, _, _, _, _, _, _, _, _, _, _] _
                refine mixt_p rfl ?_
                refine mix1_val (fun wz hz => ex_extract rfl rfl) ?_
                refine mixt_o rfl ?_
                refine ops_alloc ty110 H6 ?_
                intro w7 g7 H7 hg7
                refine ops_nil ?_
                refine ⟨fun hne => H7.pick [0, 1] (by decide), ?_⟩
                change MixT _ _ _ _ _ _ [_, _, _, _, _, _, _, _, _, _, _, _, _, _, _, _, _, _, _, _, _, _, _, _, _, _, _, _, _, _, _, _, _, _, _, _, _, _, _, _, _, _, _, _, _, _, _, _, _, _, _, _, _, _, _, _, _, _, _, _, _, _, _, _, _, _, _, _, _, _, _, _, _, _, _, _, _, _, _, _, _, _, _, _, _, _, _, _, _, _, _, _, _, _, _, _, _, _] _
                refine mixt_o rfl ?_
                refine ops_store ty110 H7 2 rfl rfl rfl rfl rfl (by first | decide | (simp; done) | simp [putAt]) rfl ?_
                intro w8 H8
                refine ops_nil ?_
                refine ⟨fun hne => H8.pick [0, 1] (by decide), ?_⟩
                change MixT _ _ _ _ _ _ [_, _, _, _, _, _, _, _, _, _, _, _, _, _, _, _, _, _, _, _, _, _, _, _, _, _, _, _, _, _, _, _, _, _, _, _, _, _, _, _, _, _, _, _, _, _, _, _, _, _, _, _, _, _, _, _, _, _, _, _, _, _, _, _, _, _, _, _, _, _, _, _, _, _, _, _, _, _, _, _, _, _, _, _, _, _, _, _, _, _, _, _, _, _, _, _, _, _] _
                refine mixt_o rfl ?_
                refine ops_val (ex_assign rfl) ?_
                refine ops_nil ?_
                refine ⟨fun hne => absurd rfl hne, ?_⟩
                change MixT _ _ _ _ _ _ [_, _, _, _, _, _, _, _, _, _, _, _, _, _, _, _, _, _, _, _, _, _, _, _, _, _, _, _, _, _, _, _, _, _, _, _, _, _, _, _, _, _, _, _, _, _, _, _, _, _, _, _, _, _, _, _, _, _, _, _, _, _, _, _, _, _, _, _, _, _, _, _, _, _, _, _, _, _, _, _, _, _, _, _, _, _, _, _, _, _, _, _, _, _, _, _, _, _] _
                refine mixt_nil ?_
                refine nR98 ?_
                refine run_seq ?_
                refine run_region ?_
                refine ops_val (ex_move rfl) ?_
                refine ops_val (ex_move rfl) ?_
                refine nO98 ?_
                refine ops_yes rfl ?_
                refine ops_val (ex_fieldAddr fl110_1 rfl) ?_
                refine ops_yes rfl ?_
                refine ops_val (ex_load ty3 rfl (H8.cell (i := 2) rfl rfl)) ?_
                refine nO98 ?_
                refine ops_yes rfl ?_
                refine ops_val (ex_fieldAddr fl81_7 rfl) ?_
                refine ops_yes rfl ?_
                refine ops_val (ex_load ty3 rfl (H8.cell (i := 1) rfl rfl)) ?_
                refine nO98 ?_
                refine ops_yes rfl ?_
                refine ops_test (ex_geq rfl rfl) (fun hp61 => ?_) (fun hp61 => ?_)
                · skip
                  refine ops_val (ex_pick_t rfl rfl) ?_
                  refine ops_nil ?_
                  refine nR98 ?_
                  refine run_cond_true rfl ?_
                  refine run_seq ?_
                  refine run_region ?_
                  refine ops_val (ex_assign rfl) ?_
                  refine ops_nil ?_
                  refine nR98 ?_
                  refine run_ret ?_
                  refine fin_ret1 rfl rfl ?_
                  have HW := HB.all H8
                  refine ⟨fun _ => ⟨rfl, _, HW.pick [0] (by decide), A1, k1, A9, k9, A3, k3, by rw [spend_has (hyq rfl) (by omega)]; rfl, hb1.toS HW hks, hS9.toR H8 (fun x hx _ => ⟨hnb x hx, .inr (by omega)⟩), ?_⟩, fun h => absurd hmay h⟩
                  rw [spend_has (hyq rfl) (by omega)]
                  exact hb3.toM HW hks
                · skip
                  refine ops_val (ex_pick_t rfl rfl) ?_
                  refine ops_nil ?_
                  refine nR98 ?_
                  refine run_cond_false rfl ?_
                  refine run_skip ?_
                  refine run_seq ?_
                  refine run_region ?_
                  refine ops_val (ex_move rfl) ?_
                  refine ops_val (ex_nilCheck rfl) ?_
                  refine ops_val (ex_fieldAddr fl41_2 rfl) ?_
                  refine ops_val (ex_load ty39 rfl (H8.cell (i := 0) rfl rfl)) ?_
                  refine nO98 ?_
                  refine ops_call (ex_call gf89 rfl) (cloneM A3 b.last.length k3 pm.flatten _ (hrm.move (by decide) ham (HB.all H8) hks).1 (ones_flatten hon) (by omega)) ?_
                  rintro _ w9 ⟨gv, cv, sv, rfl, hmv, hcv, hgv0, Hc⟩
                  have H9 := H8.call0 Hc
                  refine ops_val (ex_makeFunc rfl rfl) ?_
                  refine ops_call (ex_call gf113 rfl) (deleteM gv cv b.last.length pm hplen sv 114 _ (mkIs n.client) _ (H9.pick [3] (by decide)).here hpm hon (by omega) (by omega) hcv (prd_spent hm2 (H9.at (i := 1) rfl) rfl) (row_not H9 (i := 1) (is := [3]) rfl (by decide))) ?_
                  rintro _ w10 ⟨sv2, rfl, hl2, Hd⟩
                  have H10 := (H9.callr [3] rfl Hd).pick [0, 1, 2, 4] (by decide)
                  have hmf := hm2.filter (f := fun p => !mkIs n.client p) (g := fun x => !decide (x.client = n.client)) (fun p x h => mkIs_neq h)
                  have hmfl := hmf.len
                  have hpf : Pl 7 (pm.filter fun p => !mkIs n.client p) := hpm.sub fun x hx => (List.mem_filter.1 hx).1
                  have hfl3 : (pm.filter fun p => !mkIs n.client p).length ≤ pm.length := List.length_filter_le _ _
                  have honf : ∀ p ∈ (pm.filter fun p => !mkIs n.client p), p.all (·.oneCell') = true := fun x hx => hon x (List.mem_filter.1 hx).1
                  have HC := H10
                  refine ops_val (ex_assign rfl) ?_
                  refine ops_nil ?_
                  refine nR98 ?_
                  refine run_seq ?_
                  refine run_region ?_
                  refine ops_val (ex_assign rfl) ?_
                  refine ops_nil ?_
                  refine nR98 ?_
                  refine run_seq ?_
                  refine run_block ?_
                  refine run_loop (fun nQ lQ w => ∃ (i : Nat) (y : Int), (pm.filter fun p => !mkIs n.client p).length - i = nQ ∧ Fits [some (.pointer (some ⟨gb, 0, none⟩)), none, none, some (.pointer (some ⟨g1, 0, none⟩)), none, none, none, none, none, some (.slice (hd gv) (pm.filter fun p => !mkIs n.client p).length cv), some (.int .i64 y), none, none, none, none, none, none, none, none, none, none, none, none, none, none, none, none, none, none, none, none, none, none, none, none, none, none, none, none, none, none, none, none, none, none, none, none, none, none, none, none, none, none, none, none, none, none, none, none, none, none, none, none, none, none, none, none, none, none, none, none, none, none, none, none, none, none, none, none, none, none, none, none, none, none, none, none, none, none, none, none, none, none, none, none, none, none, none] lQ ∧ y = (i : Int) ∧ i ≤ (pm.filter fun p => !mkIs n.client p).length ∧ (∀ (k : Nat) (m : Mk), k < i → (b.last.filter fun x => !decide (x.client = n.client))[k]? = some m → m.client < n.client) ∧ Hp w10 w [] []) ((pm.filter fun p => !mkIs n.client p).length) ?_ ?_
                  · exact ⟨0, _, rfl, (fs (fn (fn (fs (fn (fn (fn (fn (fn (fs (fs (fn (fn (fn (fn (fn (fn (fn (fn (fn (fn (fn (fn (fn (fn (fn (fn (fn (fn (fn (fn (fn (fn (fn (fn (fn (fn (fn (fn (fn (fn (fn (fn (fn (fn (fn (fn (fn (fn (fn (fn (fn (fn (fn (fn (fn (fn (fn (fn (fn (fn (fn (fn (fn (fn (fn (fn (fn (fn (fn (fn (fn (fn (fn (fn (fn (fn (fn (fn (fn (fn (fn (fn (fn (fn (fn (fn (fn (fn (fn (fn (fn (fn (fn (fn (fn (fn (fn f0)))))))))))))))))))))))))))))))))))))))))))))))))))))))))))))))))))))))))))))))))))))))))))))))))), rfl, Nat.zero_le _, (fun k m h => by omega), Hp.refl _⟩
                  · rintro nQ lQ w11 ⟨i, y, rfl, hfit, rfl, hi, hlo, H11⟩
                    obtain ⟨j, rfl⟩ := hfit.open
                    refine nR98 ?_
                    clear hfit
                    refine run_seq ?_
                    refine run_seq ?_
                    refine run_still mixed (by kernel_rfl) ?_
                    rintro w12 hw12
                    have H12 := Hp.drew H11; rw [← hw12] at H12
                    refine still_val (ex_move rfl) ?_
                    refine still_val (ex_move rfl) ?_
                    refine still_val (ex_len_slice Tryz.underlying39 rfl) ?_
                    refine still_test (ex_lss rfl rfl) (fun hp73 => ?_) (fun hp73 => ?_)
                    · have hil : i < (pm.filter fun p => !mkIs n.client p).length := by omega
                      obtain ⟨p1, hp1⟩ := get_of hil
                      obtain ⟨x, hx, hR⟩ := hmf.getL hp1
                      unfold MkR at hR
                      subst hR
                      have hc0 : ((pm.filter fun p => !mkIs n.client p).flatten ++ sv2)[0 + i * 7 + 0]? = some (.int .i64 x.client) := by
                        have h1 := hpf.get hp1 (j := 0) (u := .int .i64 x.client) rfl
                        show (_ ++ _)[0 + i * 7 + 0]? = _
                        rw [Nat.zero_add, List.getElem?_append_left (lt_of_get h1)]; exact h1
                      obtain ⟨gz, rfl⟩ := own_some HC (i := 3) rfl (by have := lt_of_get hc0; omega)
                      refine still_val (ex_move rfl) ?_
                      refine nS98 ?_
                      refine still_yes rfl ?_
                      refine still_val (ex_move rfl) ?_
                      refine still_yes rfl ?_
                      refine still_val (ex_move rfl) ?_
                      refine nS98 ?_
                      refine still_yes rfl ?_
                      refine still_val (ex_idxN Tryz.underlying39 ty110 rfl rfl rfl hil) ?_
                      refine still_yes rfl ?_
                      refine still_val (ex_fieldAddr fl110_0 rfl) ?_
                      refine nS98 ?_
                      refine still_yes rfl ?_
                      refine still_val (ex_load ty3 rfl ((HC.callN H12).cell (i := 3) rfl hc0)) ?_
                      refine still_yes rfl ?_
                      refine still_val (ex_fieldAddr fl81_6 rfl) ?_
                      refine nS98 ?_
                      refine still_yes rfl ?_
                      refine still_val (ex_load ty3 rfl ((HC.callN H12).cell (i := 1) rfl rfl)) ?_
                      refine still_yes rfl ?_
                      refine still_test (ex_lss rfl rfl) (fun hp82 => ?_) (fun hp82 => ?_)
                      · skip
                        refine still_val (ex_pick_t rfl rfl) ?_
                        refine still_nil ?_
                        refine nR98 ?_
                        refine run_cond_true rfl ?_
                        refine run_skip ?_
                        refine run_block ?_
                        refine run_region ?_
                        refine ops_val (ex_move rfl) ?_
                        refine ops_val (ex_add rfl rfl (IntWalk.i64_in _ (by omega))) ?_
                        refine ops_val (ex_assign rfl) ?_
                        refine ops_nil ?_
                        refine nR98 ?_
                        refine run_nil (blk_normal ?_)
                        refine run_nil (rnd_normal ?_)
                        exact ⟨(pm.filter fun p => !mkIs n.client p).length - (i + 1), by omega, i + 1, _, rfl, (fs (fn (fn (fs (fn (fn (fn (fn (fn (fs (fs (fn (fn (fn (fn (fn (fn (fn (fn (fn (fn (fn (fn (fn (fn (fn (fn (fn (fn (fn (fn (fn (fn (fn (fn (fn (fn (fn (fn (fn (fn (fn (fn (fn (fn (fn (fn (fn (fn (fn (fn (fn (fn (fn (fn (fn (fn (fn (fn (fn (fn (fn (fn (fn (fn (fn (fn (fn (fn (fn (fn (fn (fn (fn (fn (fn (fn (fn (fn (fn (fn (fn (fn (fn (fn (fn (fn (fn (fn (fn (fn (fn (fn (fn (fn (fn (fn (fn f0)))))))))))))))))))))))))))))))))))))))))))))))))))))))))))))))))))))))))))))))))))))))))))))))))), by omega, by omega, fun k m hk hm => by
                          rcases Nat.lt_or_eq_of_le (show k ≤ i by omega) with h | rfl
                          · exact hlo k m h hm
                          · rw [hx] at hm
                            simp only [Option.some.injEq] at hm
                            subst hm; exact hp82, H12⟩
                      · skip
                        refine still_val (ex_pick_t rfl rfl) ?_
                        refine still_nil ?_
                        refine nR98 ?_
                        refine run_cond_false rfl ?_
                        refine run_exit ?_
                        refine rnd_exit ?_
                        refine blk_exit ?_
                        refine run_seq ?_
                        refine run_region ?_
                        replace H12 := HC.callN H12
                        refine ops_val (ex_move rfl) ?_
                        refine ops_val (ex_move rfl) ?_
                        refine ops_val (ex_move rfl) ?_
                        refine ops_val (ex_fieldAddr fl81_6 rfl) ?_
                        refine nO98 ?_
                        refine ops_val (ex_load ty3 rfl (H12.cell (i := 1) rfl rfl)) ?_
                        refine ops_val (ex_fieldAddr fl81_7 rfl) ?_
                        refine ops_val (ex_load ty3 rfl (H12.cell (i := 1) rfl rfl)) ?_
                        refine ops_val (ex_build ty110 pl110 rfl rfl) ?_
                        refine nO98 ?_
                        refine ops_buildSlice Tryz.underlying39 ty110 H12 rfl (by decide) rfl ?_
                        intro w13 g13 H13 hg13
                        refine ops_call (ex_call gf115 rfl) (insertM _ cv i _ (pm.filter fun p => !mkIs n.client p).length (pm.filter fun p => !mkIs n.client p) rfl (mkC ⟨n.client, n.seq⟩) sv2 _ (H13.pick [3] (by decide)).here hpf honf (by omega) (by rw [hl2]; exact hcv) hgv0 (by omega) (H13.at (i := 4) rfl) rfl rfl (row_not H13 (i := 4) (is := [3]) rfl (by decide)) (by omega)) ?_
                        rintro _ w14 ⟨gw, cw, sw, rfl, hnw, hcw, hgw, Hd⟩
                        have H14 := (H13.callr [3] rfl Hd).pick [0, 1, 2, 5] (by decide)
                        refine ops_val (ex_nilCheck rfl) ?_
                        refine ops_val (ex_fieldAddr fl41_2 rfl) ?_
                        refine nO98 ?_
                        refine ops_store1 ty39 H14 0 rfl rfl rfl rfl (by first | (simp; done) | simp [putAt]) rfl ?_
                        intro w15 H15
                        refine ops_nil ?_
                        refine nR98 ?_
                        refine run_seq ?_
                        refine run_region ?_
                        refine ops_val (ex_assign rfl) ?_
                        refine ops_nil ?_
                        refine nR98 ?_
                        refine run_ret ?_
                        refine fin_ret1 rfl rfl ?_
                        have HW := HB.all H15
                        have hput := putMk_del (v := ⟨n.client, n.seq⟩) (i := i) (mks_rise hg.mks).2 (by rw [← hmfl]; omega) hlo (.inr ⟨x, hx, hp82⟩)
                        have hsp : spend b.last n.client n.seq = putMk b.last ⟨n.client, n.seq⟩ := spend_more (by omega) (hyq rfl) (by omega)
                        rw [← hput] at hsp
                        have hln : ((b.last.filter fun x => !decide (x.client = n.client)).take i ++ (⟨n.client, n.seq⟩ : Mk) :: (b.last.filter fun x => !decide (x.client = n.client)).drop i).length = (pm.filter fun p => !mkIs n.client p).length + 1 := by rw [List.length_append, List.length_cons, List.length_take, List.length_drop, ← hmfl]; omega
                        refine ⟨fun _ => ⟨rfl, _, HW.pick [0] (by decide), A1, k1, A9, k9, hd gw, cw, by rw [hsp, hln]; rfl, hb1.toS HW hks, hS9.toR H15 (fun x hx _ => ⟨hnb x hx, .inr (by omega)⟩), ?_⟩, fun h => absurd hmay h⟩
                        rw [hsp]
                        exact Sl.row HW (i := 3) rfl ((hpf.sub fun x hx => List.mem_of_mem_take hx).app fun x hx => by
                          rcases List.mem_cons.1 hx with rfl | hx
                          · rfl
                          · exact hpf x (List.mem_of_mem_drop hx)) (by decide) ((hmf.take i).app ⟨rfl, hmf.drop i⟩) (fun b hb => row_new (ok := ok) HW (i := 3) rfl (fun c hc => by rw [List.mem_singleton.1 hc]; exact fun e => HW.ne (i := 3) (j := 0) (g := gb) (by rw [e]; rfl) rfl (by decide) rfl) b hb)
                    · skip
                      refine still_val (ex_move rfl) ?_
                      refine nS98 ?_
                      refine still_no rfl ?_
                      refine still_no rfl ?_
                      refine nS98 ?_
                      refine still_no rfl ?_
                      refine still_no rfl ?_
                      refine nS98 ?_
                      refine still_no rfl ?_
                      refine still_no rfl ?_
                      refine nS98 ?_
                      refine still_no rfl ?_
                      refine still_no rfl ?_
                      refine still_val (ex_pick_f rfl rfl) ?_
                      refine still_nil ?_
                      refine nR98 ?_
                      refine run_cond_false rfl ?_
                      refine run_exit ?_
                      refine rnd_exit ?_
                      refine blk_exit ?_
                      refine run_seq ?_
                      refine run_region ?_
                      replace H12 := HC.callN H12
                      refine ops_val (ex_move rfl) ?_
                      refine ops_val (ex_move rfl) ?_
                      refine ops_val (ex_move rfl) ?_
                      refine ops_val (ex_fieldAddr fl81_6 rfl) ?_
                      refine nO98 ?_
                      refine ops_val (ex_load ty3 rfl (H12.cell (i := 1) rfl rfl)) ?_
                      refine ops_val (ex_fieldAddr fl81_7 rfl) ?_
                      refine ops_val (ex_load ty3 rfl (H12.cell (i := 1) rfl rfl)) ?_
                      refine ops_val (ex_build ty110 pl110 rfl rfl) ?_
                      refine nO98 ?_
                      refine ops_buildSlice Tryz.underlying39 ty110 H12 rfl (by decide) rfl ?_
                      intro w13 g13 H13 hg13
                      refine ops_call (ex_call gf115 rfl) (insertM _ cv i _ (pm.filter fun p => !mkIs n.client p).length (pm.filter fun p => !mkIs n.client p) rfl (mkC ⟨n.client, n.seq⟩) sv2 _ (H13.pick [3] (by decide)).here hpf honf (by omega) (by rw [hl2]; exact hcv) hgv0 (by omega) (H13.at (i := 4) rfl) rfl rfl (row_not H13 (i := 4) (is := [3]) rfl (by decide)) (by omega)) ?_
                      rintro _ w14 ⟨gw, cw, sw, rfl, hnw, hcw, hgw, Hd⟩
                      have H14 := (H13.callr [3] rfl Hd).pick [0, 1, 2, 5] (by decide)
                      refine ops_val (ex_nilCheck rfl) ?_
                      refine ops_val (ex_fieldAddr fl41_2 rfl) ?_
                      refine nO98 ?_
                      refine ops_store1 ty39 H14 0 rfl rfl rfl rfl (by first | (simp; done) | simp [putAt]) rfl ?_
                      intro w15 H15
                      refine ops_nil ?_
                      refine nR98 ?_
                      refine run_seq ?_
                      refine run_region ?_
                      refine ops_val (ex_assign rfl) ?_
                      refine ops_nil ?_
                      refine nR98 ?_
                      refine run_ret ?_
                      refine fin_ret1 rfl rfl ?_
                      have HW := HB.all H15
                      have hput := putMk_del (v := ⟨n.client, n.seq⟩) (i := i) (mks_rise hg.mks).2 (by rw [← hmfl]; omega) hlo (.inl (by rw [← hmfl]; omega))
                      have hsp : spend b.last n.client n.seq = putMk b.last ⟨n.client, n.seq⟩ := spend_more (by omega) (hyq rfl) (by omega)
                      rw [← hput] at hsp
                      have hln : ((b.last.filter fun x => !decide (x.client = n.client)).take i ++ (⟨n.client, n.seq⟩ : Mk) :: (b.last.filter fun x => !decide (x.client = n.client)).drop i).length = (pm.filter fun p => !mkIs n.client p).length + 1 := by rw [List.length_append, List.length_cons, List.length_take, List.length_drop, ← hmfl]; omega
                      refine ⟨fun _ => ⟨rfl, _, HW.pick [0] (by decide), A1, k1, A9, k9, hd gw, cw, by rw [hsp, hln]; rfl, hb1.toS HW hks, hS9.toR H15 (fun x hx _ => ⟨hnb x hx, .inr (by omega)⟩), ?_⟩, fun h => absurd hmay h⟩
                      rw [hsp]
                      exact Sl.row HW (i := 3) rfl ((hpf.sub fun x hx => List.mem_of_mem_take hx).app fun x hx => by
                        rcases List.mem_cons.1 hx with rfl | hx
                        · rfl
                        · exact hpf x (List.mem_of_mem_drop hx)) (by decide) ((hmf.take i).app ⟨rfl, hmf.drop i⟩) (fun b hb => row_new (ok := ok) HW (i := 3) rfl (fun c hc => by rw [List.mem_singleton.1 hc]; exact fun e => HW.ne (i := 3) (j := 0) (g := gb) (by rw [e]; rfl) rfl (by decide) rfl) b hb)
            · skip
              refine mixt_o rfl ?_
              refine ops_alloc ty110 H5 ?_
              intro w6 g6 H6 hg6
              refine ops_nil ?_
              refine ⟨fun hne => H6.pick [0, 1] (by decide), ?_⟩
              change MixT _ _ _ _ _ _ [_, _, _, _, _, _, _, _, _, _, _, _, _, _, _, _, _, _, _, _, _, _, _, _, _, _, _, _, _, _, _, _, _, _, _, _, _, _, _, _, _, _, _, _, _, _, _, _, _, _, _, _, _, _, _, _, _, _, _, _, _, _, _, _, _, _, _, _, _, _, _, _, _, _, _, _, _, _, _, _, _, _, _, _, _, _, _, _, _, _, _, _, _, _, _, _, _, _] _
              refine mixt_o rfl ?_
              refine ops_call (ex_call gf112 rfl) (find_s A3 k3 b.last n.client (up ok w0.heap.size) _ (hb3.toM (HB.all H6) hks) (by omega) hg.mks) ?_
              rintro _ w7 ⟨mq, fq, rfl, hyq, hnq, Hd⟩
              have H7 := H6.callN Hd
              cases fq
              · skip
                refine ops_nil ?_
                refine ⟨fun hne => H7.pick [0, 1] (by decide), ?_⟩
                refine mixt_p rfl ?_
                refine mix1_val (fun wz hz => ex_move rfl) ?_
                refine mixt_p rfl ?_
                refine mix1_val (fun wz hz => ex_extract rfl rfl) ?_
                refine mixt_p rfl ?_
                refine mix1_val (fun wz hz => ex_extract rfl rfl) ?_
                refine mixt_o rfl ?_
                refine ops_store ty110 H7 2 rfl rfl rfl rfl rfl (by first | decide | (simp; done) | simp [putAt]) rfl ?_
                intro w8 H8
                refine ops_nil ?_
                refine ⟨fun hne => H8.pick [0, 1] (by decide), ?_⟩
                change MixT _ _ _ _ _ _ [_, _, _, _, _, _, _, _, _, _, _, _, _, _, _, _, _, _, _, _, _, _, _, _, _, _, _, _, _, _, _, _, _, _, _, _, _, _, _, _, _, _, _, _, _, _, _, _, _, _, _, _, _, _, _, _, _, _, _, _, _, _, _, _, _, _, _, _, _, _, _, _, _, _, _, _, _, _, _, _, _, _, _, _, _, _, _, _, _, _, _, _, _, _, _, _, _, _] _
                refine mixt_o rfl ?_
                refine ops_val (ex_assign rfl) ?_
                refine ops_nil ?_
                refine ⟨fun hne => absurd rfl hne, ?_⟩
                change MixT _ _ _ _ _ _ [_, _, _, _, _, _, _, _, _, _, _, _, _, _, _, _, _, _, _, _, _, _, _, _, _, _, _, _, _, _, _, _, _, _, _, _, _, _, _, _, _, _, _, _, _, _, _, _, _, _, _, _, _, _, _, _, _, _, _, _, _, _, _, _, _, _, _, _, _, _, _, _, _, _, _, _, _, _, _, _, _, _, _, _, _, _, _, _, _, _, _, _, _, _, _, _, _, _] _
                refine mixt_nil ?_
                refine nR98 ?_
                refine run_seq ?_
                refine run_region ?_
                refine ops_val (ex_move rfl) ?_
                refine ops_val (ex_move rfl) ?_
                refine nO98 ?_
                refine ops_no rfl ?_
                refine ops_no rfl ?_
                refine nO98 ?_
                refine ops_no rfl ?_
                refine ops_no rfl ?_
                refine nO98 ?_
                refine ops_no rfl ?_
                refine ops_val (ex_pick_f rfl rfl) ?_
                refine ops_nil ?_
                refine nR98 ?_
                refine run_cond_false rfl ?_
                refine run_skip ?_
                refine run_seq ?_
                refine run_region ?_
                refine ops_val (ex_move rfl) ?_
                refine ops_val (ex_nilCheck rfl) ?_
                refine ops_val (ex_fieldAddr fl41_2 rfl) ?_
                refine ops_val (ex_load ty39 rfl (H8.cell (i := 0) rfl rfl)) ?_
                refine nO98 ?_
                refine ops_call (ex_call gf89 rfl) (cloneM A3 b.last.length k3 pm.flatten _ (hrm.move (by decide) ham (HB.all H8) hks).1 (ones_flatten hon) (by omega)) ?_
                rintro _ w9 ⟨gv, cv, sv, rfl, hmv, hcv, hgv0, Hc⟩
                have H9 := H8.call0 Hc
                refine ops_val (ex_makeFunc rfl rfl) ?_
                refine ops_call (ex_call gf113 rfl) (deleteM gv cv b.last.length pm hplen sv 114 _ (mkIs n.client) _ (H9.pick [3] (by decide)).here hpm hon (by omega) (by omega) hcv (prd_spent hm2 (H9.at (i := 1) rfl) rfl) (row_not H9 (i := 1) (is := [3]) rfl (by decide))) ?_
                rintro _ w10 ⟨sv2, rfl, hl2, Hd⟩
                have H10 := (H9.callr [3] rfl Hd).pick [0, 1, 2, 4] (by decide)
                have hmf := hm2.filter (f := fun p => !mkIs n.client p) (g := fun x => !decide (x.client = n.client)) (fun p x h => mkIs_neq h)
                have hmfl := hmf.len
                have hpf : Pl 7 (pm.filter fun p => !mkIs n.client p) := hpm.sub fun x hx => (List.mem_filter.1 hx).1
                have hfl3 : (pm.filter fun p => !mkIs n.client p).length ≤ pm.length := List.length_filter_le _ _
                have honf : ∀ p ∈ (pm.filter fun p => !mkIs n.client p), p.all (·.oneCell') = true := fun x hx => hon x (List.mem_filter.1 hx).1
                have HC := H10
                refine ops_val (ex_assign rfl) ?_
                refine ops_nil ?_
                refine nR98 ?_
                refine run_seq ?_
                refine run_region ?_
                refine ops_val (ex_assign rfl) ?_
                refine ops_nil ?_
                refine nR98 ?_
                refine run_seq ?_
                refine run_block ?_
                refine run_loop (fun nQ lQ w => ∃ (i : Nat) (y : Int), (pm.filter fun p => !mkIs n.client p).length - i = nQ ∧ Fits [some (.pointer (some ⟨gb, 0, none⟩)), none, none, some (.pointer (some ⟨g1, 0, none⟩)), none, none, none, none, none, some (.slice (hd gv) (pm.filter fun p => !mkIs n.client p).length cv), some (.int .i64 y), none, none, none, none, none, none, none, none, none, none, none, none, none, none, none, none, none, none, none, none, none, none, none, none, none, none, none, none, none, none, none, none, none, none, none, none, none, none, none, none, none, none, none, none, none, none, none, none, none, none, none, none, none, none, none, none, none, none, none, none, none, none, none, none, none, none, none, none, none, none, none, none, none, none, none, none, none, none, none, none, none, none, none, none, none, none, none] lQ ∧ y = (i : Int) ∧ i ≤ (pm.filter fun p => !mkIs n.client p).length ∧ (∀ (k : Nat) (m : Mk), k < i → (b.last.filter fun x => !decide (x.client = n.client))[k]? = some m → m.client < n.client) ∧ Hp w10 w [] []) ((pm.filter fun p => !mkIs n.client p).length) ?_ ?_
                · exact ⟨0, _, rfl, (fs (fn (fn (fs (fn (fn (fn (fn (fn (fs (fs (fn (fn (fn (fn (fn (fn (fn (fn (fn (fn (fn (fn (fn (fn (fn (fn (fn (fn (fn (fn (fn (fn (fn (fn (fn (fn (fn (fn (fn (fn (fn (fn (fn (fn (fn (fn (fn (fn (fn (fn (fn (fn (fn (fn (fn (fn (fn (fn (fn (fn (fn (fn (fn (fn (fn (fn (fn (fn (fn (fn (fn (fn (fn (fn (fn (fn (fn (fn (fn (fn (fn (fn (fn (fn (fn (fn (fn (fn (fn (fn (fn (fn (fn (fn (fn (fn (fn f0)))))))))))))))))))))))))))))))))))))))))))))))))))))))))))))))))))))))))))))))))))))))))))))))))), rfl, Nat.zero_le _, (fun k m h => by omega), Hp.refl _⟩
                · rintro nQ lQ w11 ⟨i, y, rfl, hfit, rfl, hi, hlo, H11⟩
                  obtain ⟨j, rfl⟩ := hfit.open
                  refine nR98 ?_
                  clear hfit
                  refine run_seq ?_
                  refine run_seq ?_
                  refine run_still mixed (by kernel_rfl) ?_
                  rintro w12 hw12
                  have H12 := Hp.drew H11; rw [← hw12] at H12
                  refine still_val (ex_move rfl) ?_
                  refine still_val (ex_move rfl) ?_
                  refine still_val (ex_len_slice Tryz.underlying39 rfl) ?_
                  refine still_test (ex_lss rfl rfl) (fun hp73 => ?_) (fun hp73 => ?_)
                  · have hil : i < (pm.filter fun p => !mkIs n.client p).length := by omega
                    obtain ⟨p1, hp1⟩ := get_of hil
                    obtain ⟨x, hx, hR⟩ := hmf.getL hp1
                    unfold MkR at hR
                    subst hR
                    have hc0 : ((pm.filter fun p => !mkIs n.client p).flatten ++ sv2)[0 + i * 7 + 0]? = some (.int .i64 x.client) := by
                      have h1 := hpf.get hp1 (j := 0) (u := .int .i64 x.client) rfl
                      show (_ ++ _)[0 + i * 7 + 0]? = _
                      rw [Nat.zero_add, List.getElem?_append_left (lt_of_get h1)]; exact h1
                    obtain ⟨gz, rfl⟩ := own_some HC (i := 3) rfl (by have := lt_of_get hc0; omega)
                    refine still_val (ex_move rfl) ?_
                    refine nS98 ?_
                    refine still_yes rfl ?_
                    refine still_val (ex_move rfl) ?_
                    refine still_yes rfl ?_
                    refine still_val (ex_move rfl) ?_
                    refine nS98 ?_
                    refine still_yes rfl ?_
                    refine still_val (ex_idxN Tryz.underlying39 ty110 rfl rfl rfl hil) ?_
                    refine still_yes rfl ?_
                    refine still_val (ex_fieldAddr fl110_0 rfl) ?_
                    refine nS98 ?_
                    refine still_yes rfl ?_
                    refine still_val (ex_load ty3 rfl ((HC.callN H12).cell (i := 3) rfl hc0)) ?_
                    refine still_yes rfl ?_
                    refine still_val (ex_fieldAddr fl81_6 rfl) ?_
                    refine nS98 ?_
                    refine still_yes rfl ?_
                    refine still_val (ex_load ty3 rfl ((HC.callN H12).cell (i := 1) rfl rfl)) ?_
                    refine still_yes rfl ?_
                    refine still_test (ex_lss rfl rfl) (fun hp82 => ?_) (fun hp82 => ?_)
                    · skip
                      refine still_val (ex_pick_t rfl rfl) ?_
                      refine still_nil ?_
                      refine nR98 ?_
                      refine run_cond_true rfl ?_
                      refine run_skip ?_
                      refine run_block ?_
                      refine run_region ?_
                      refine ops_val (ex_move rfl) ?_
                      refine ops_val (ex_add rfl rfl (IntWalk.i64_in _ (by omega))) ?_
                      refine ops_val (ex_assign rfl) ?_
                      refine ops_nil ?_
                      refine nR98 ?_
                      refine run_nil (blk_normal ?_)
                      refine run_nil (rnd_normal ?_)
                      exact ⟨(pm.filter fun p => !mkIs n.client p).length - (i + 1), by omega, i + 1, _, rfl, (fs (fn (fn (fs (fn (fn (fn (fn (fn (fs (fs (fn (fn (fn (fn (fn (fn (fn (fn (fn (fn (fn (fn (fn (fn (fn (fn (fn (fn (fn (fn (fn (fn (fn (fn (fn (fn (fn (fn (fn (fn (fn (fn (fn (fn (fn (fn (fn (fn (fn (fn (fn (fn (fn (fn (fn (fn (fn (fn (fn (fn (fn (fn (fn (fn (fn (fn (fn (fn (fn (fn (fn (fn (fn (fn (fn (fn (fn (fn (fn (fn (fn (fn (fn (fn (fn (fn (fn (fn (fn (fn (fn (fn (fn (fn (fn (fn (fn f0)))))))))))))))))))))))))))))))))))))))))))))))))))))))))))))))))))))))))))))))))))))))))))))))))), by omega, by omega, fun k m hk hm => by
                        rcases Nat.lt_or_eq_of_le (show k ≤ i by omega) with h | rfl
                        · exact hlo k m h hm
                        · rw [hx] at hm
                          simp only [Option.some.injEq] at hm
                          subst hm; exact hp82, H12⟩
                    · skip
                      refine still_val (ex_pick_t rfl rfl) ?_
                      refine still_nil ?_
                      refine nR98 ?_
                      refine run_cond_false rfl ?_
                      refine run_exit ?_
                      refine rnd_exit ?_
                      refine blk_exit ?_
                      refine run_seq ?_
                      refine run_region ?_
                      replace H12 := HC.callN H12
                      refine ops_val (ex_move rfl) ?_
                      refine ops_val (ex_move rfl) ?_
                      refine ops_val (ex_move rfl) ?_
                      refine ops_val (ex_fieldAddr fl81_6 rfl) ?_
                      refine nO98 ?_
                      refine ops_val (ex_load ty3 rfl (H12.cell (i := 1) rfl rfl)) ?_
                      refine ops_val (ex_fieldAddr fl81_7 rfl) ?_
                      refine ops_val (ex_load ty3 rfl (H12.cell (i := 1) rfl rfl)) ?_
                      refine ops_val (ex_build ty110 pl110 rfl rfl) ?_
                      refine nO98 ?_
                      refine ops_buildSlice Tryz.underlying39 ty110 H12 rfl (by decide) rfl ?_
                      intro w13 g13 H13 hg13
                      refine ops_call (ex_call gf115 rfl) (insertM _ cv i _ (pm.filter fun p => !mkIs n.client p).length (pm.filter fun p => !mkIs n.client p) rfl (mkC ⟨n.client, n.seq⟩) sv2 _ (H13.pick [3] (by decide)).here hpf honf (by omega) (by rw [hl2]; exact hcv) hgv0 (by omega) (H13.at (i := 4) rfl) rfl rfl (row_not H13 (i := 4) (is := [3]) rfl (by decide)) (by omega)) ?_
                      rintro _ w14 ⟨gw, cw, sw, rfl, hnw, hcw, hgw, Hd⟩
                      have H14 := (H13.callr [3] rfl Hd).pick [0, 1, 2, 5] (by decide)
                      refine ops_val (ex_nilCheck rfl) ?_
                      refine ops_val (ex_fieldAddr fl41_2 rfl) ?_
                      refine nO98 ?_
                      refine ops_store1 ty39 H14 0 rfl rfl rfl rfl (by first | (simp; done) | simp [putAt]) rfl ?_
                      intro w15 H15
                      refine ops_nil ?_
                      refine nR98 ?_
                      refine run_seq ?_
                      refine run_region ?_
                      refine ops_val (ex_assign rfl) ?_
                      refine ops_nil ?_
                      refine nR98 ?_
                      refine run_ret ?_
                      refine fin_ret1 rfl rfl ?_
                      have HW := HB.all H15
                      have hput := putMk_del (v := ⟨n.client, n.seq⟩) (i := i) (mks_rise hg.mks).2 (by rw [← hmfl]; omega) hlo (.inr ⟨x, hx, hp82⟩)
                      have hsp : spend b.last n.client n.seq = putMk b.last ⟨n.client, n.seq⟩ := spend_new (by omega) (hnq rfl)
                      rw [← hput] at hsp
                      have hln : ((b.last.filter fun x => !decide (x.client = n.client)).take i ++ (⟨n.client, n.seq⟩ : Mk) :: (b.last.filter fun x => !decide (x.client = n.client)).drop i).length = (pm.filter fun p => !mkIs n.client p).length + 1 := by rw [List.length_append, List.length_cons, List.length_take, List.length_drop, ← hmfl]; omega
                      refine ⟨fun _ => ⟨rfl, _, HW.pick [0] (by decide), A1, k1, A9, k9, hd gw, cw, by rw [hsp, hln]; rfl, hb1.toS HW hks, hS9.toR H15 (fun x hx _ => ⟨hnb x hx, .inr (by omega)⟩), ?_⟩, fun h => absurd hmay h⟩
                      rw [hsp]
                      exact Sl.row HW (i := 3) rfl ((hpf.sub fun x hx => List.mem_of_mem_take hx).app fun x hx => by
                        rcases List.mem_cons.1 hx with rfl | hx
                        · rfl
                        · exact hpf x (List.mem_of_mem_drop hx)) (by decide) ((hmf.take i).app ⟨rfl, hmf.drop i⟩) (fun b hb => row_new (ok := ok) HW (i := 3) rfl (fun c hc => by rw [List.mem_singleton.1 hc]; exact fun e => HW.ne (i := 3) (j := 0) (g := gb) (by rw [e]; rfl) rfl (by decide) rfl) b hb)
                  · skip
                    refine still_val (ex_move rfl) ?_
                    refine nS98 ?_
                    refine still_no rfl ?_
                    refine still_no rfl ?_
                    refine nS98 ?_
                    refine still_no rfl ?_
                    refine still_no rfl ?_
                    refine nS98 ?_
                    refine still_no rfl ?_
                    refine still_no rfl ?_
                    refine nS98 ?_
                    refine still_no rfl ?_
                    refine still_no rfl ?_
                    refine still_val (ex_pick_f rfl rfl) ?_
                    refine still_nil ?_
                    refine nR98 ?_
                    refine run_cond_false rfl ?_
                    refine run_exit ?_
                    refine rnd_exit ?_
                    refine blk_exit ?_
                    refine run_seq ?_
                    refine run_region ?_
                    replace H12 := HC.callN H12
                    refine ops_val (ex_move rfl) ?_
                    refine ops_val (ex_move rfl) ?_
                    refine ops_val (ex_move rfl) ?_
                    refine ops_val (ex_fieldAddr fl81_6 rfl) ?_
                    refine nO98 ?_
                    refine ops_val (ex_load ty3 rfl (H12.cell (i := 1) rfl rfl)) ?_
                    refine ops_val (ex_fieldAddr fl81_7 rfl) ?_
                    refine ops_val (ex_load ty3 rfl (H12.cell (i := 1) rfl rfl)) ?_
                    refine ops_val (ex_build ty110 pl110 rfl rfl) ?_
                    refine nO98 ?_
                    refine ops_buildSlice Tryz.underlying39 ty110 H12 rfl (by decide) rfl ?_
                    intro w13 g13 H13 hg13
                    refine ops_call (ex_call gf115 rfl) (insertM _ cv i _ (pm.filter fun p => !mkIs n.client p).length (pm.filter fun p => !mkIs n.client p) rfl (mkC ⟨n.client, n.seq⟩) sv2 _ (H13.pick [3] (by decide)).here hpf honf (by omega) (by rw [hl2]; exact hcv) hgv0 (by omega) (H13.at (i := 4) rfl) rfl rfl (row_not H13 (i := 4) (is := [3]) rfl (by decide)) (by omega)) ?_
                    rintro _ w14 ⟨gw, cw, sw, rfl, hnw, hcw, hgw, Hd⟩
                    have H14 := (H13.callr [3] rfl Hd).pick [0, 1, 2, 5] (by decide)
                    refine ops_val (ex_nilCheck rfl) ?_
                    refine ops_val (ex_fieldAddr fl41_2 rfl) ?_
                    refine nO98 ?_
                    refine ops_store1 ty39 H14 0 rfl rfl rfl rfl (by first | (simp; done) | simp [putAt]) rfl ?_
                    intro w15 H15
                    refine ops_nil ?_
                    refine nR98 ?_
                    refine run_seq ?_
                    refine run_region ?_
                    refine ops_val (ex_assign rfl) ?_
                    refine ops_nil ?_
                    refine nR98 ?_
                    refine run_ret ?_
                    refine fin_ret1 rfl rfl ?_
                    have HW := HB.all H15
                    have hput := putMk_del (v := ⟨n.client, n.seq⟩) (i := i) (mks_rise hg.mks).2 (by rw [← hmfl]; omega) hlo (.inl (by rw [← hmfl]; omega))
                    have hsp : spend b.last n.client n.seq = putMk b.last ⟨n.client, n.seq⟩ := spend_new (by omega) (hnq rfl)
                    rw [← hput] at hsp
                    have hln : ((b.last.filter fun x => !decide (x.client = n.client)).take i ++ (⟨n.client, n.seq⟩ : Mk) :: (b.last.filter fun x => !decide (x.client = n.client)).drop i).length = (pm.filter fun p => !mkIs n.client p).length + 1 := by rw [List.length_append, List.length_cons, List.length_take, List.length_drop, ← hmfl]; omega
                    refine ⟨fun _ => ⟨rfl, _, HW.pick [0] (by decide), A1, k1, A9, k9, hd gw, cw, by rw [hsp, hln]; rfl, hb1.toS HW hks, hS9.toR H15 (fun x hx _ => ⟨hnb x hx, .inr (by omega)⟩), ?_⟩, fun h => absurd hmay h⟩
                    rw [hsp]
                    exact Sl.row HW (i := 3) rfl ((hpf.sub fun x hx => List.mem_of_mem_take hx).app fun x hx => by
                      rcases List.mem_cons.1 hx with rfl | hx
                      · rfl
                      · exact hpf x (List.mem_of_mem_drop hx)) (by decide) ((hmf.take i).app ⟨rfl, hmf.drop i⟩) (fun b hb => row_new (ok := ok) HW (i := 3) rfl (fun c hc => by rw [List.mem_singleton.1 hc]; exact fun e => HW.ne (i := 3) (j := 0) (g := gb) (by rw [e]; rfl) rfl (by decide) rfl) b hb)
              · skip
                refine ops_nil ?_
                refine ⟨fun hne => H7.pick [0, 1] (by decide), ?_⟩
                refine mixt_p rfl ?_
                refine mix1_val (fun wz hz => ex_move rfl) ?_
                refine mixt_p rfl ?_
                refine mix1_val (fun wz hz => ex_extract rfl rfl) ?_
                refine mixt_p rfl ?_
                refine mix1_val (fun wz hz => ex_extract rfl rfl) ?_
                refine mixt_o rfl ?_
                refine ops_store ty110 H7 2 rfl rfl rfl rfl rfl (by first | decide | (simp; done) | simp [putAt]) rfl ?_
                intro w8 H8
                refine ops_nil ?_
                refine ⟨fun hne => H8.pick [0, 1] (by decide), ?_⟩
                change MixT _ _ _ _ _ _ [_, _, _, _, _, _, _, _, _, _, _, _, _, _, _, _, _, _, _, _, _, _, _, _, _, _, _, _, _, _, _, _, _, _, _, _, _, _, _, _, _, _, _, _, _, _, _, _, _, _, _, _, _, _, _, _, _, _, _, _, _, _, _, _, _, _, _, _, _, _, _, _, _, _, _, _, _, _, _, _, _, _, _, _, _, _, _, _, _, _, _, _, _, _, _, _, _, _] _
                refine mixt_o rfl ?_
                refine ops_val (ex_assign rfl) ?_
                refine ops_nil ?_
                refine ⟨fun hne => absurd rfl hne, ?_⟩
                change MixT _ _ _ _ _ _ [_, _, _, _, _, _, _, _, _, _, _, _, _, _, _, _, _, _, _, _, _, _, _, _, _, _, _, _, _, _, _, _, _, _, _, _, _, _, _, _, _, _, _, _, _, _, _, _, _, _, _, _, _, _, _, _, _, _, _, _, _, _, _, _, _, _, _, _, _, _, _, _, _, _, _, _, _, _, _, _, _, _, _, _, _, _, _, _, _, _, _, _, _, _, _, _, _, _] _
                refine mixt_nil ?_
                refine nR98 ?_
                refine run_seq ?_
                refine run_region ?_
                refine ops_val (ex_move rfl) ?_
                refine ops_val (ex_move rfl) ?_
                refine nO98 ?_
                refine ops_yes rfl ?_
                refine ops_val (ex_fieldAddr fl110_1 rfl) ?_
                refine ops_yes rfl ?_
                refine ops_val (ex_load ty3 rfl (H8.cell (i := 2) rfl rfl)) ?_
                refine nO98 ?_
                refine ops_yes rfl ?_
                refine ops_val (ex_fieldAddr fl81_7 rfl) ?_
                refine ops_yes rfl ?_
                refine ops_val (ex_load ty3 rfl (H8.cell (i := 1) rfl rfl)) ?_
                refine nO98 ?_
                refine ops_yes rfl ?_
                refine ops_test (ex_geq rfl rfl) (fun hp61 => ?_) (fun hp61 => ?_)
                · skip
                  refine ops_val (ex_pick_t rfl rfl) ?_
                  refine ops_nil ?_
                  refine nR98 ?_
                  refine run_cond_true rfl ?_
                  refine run_seq ?_
                  refine run_region ?_
                  refine ops_val (ex_assign rfl) ?_
                  refine ops_nil ?_
                  refine nR98 ?_
                  refine run_ret ?_
                  refine fin_ret1 rfl rfl ?_
                  have HW := HB.all H8
                  refine ⟨fun _ => ⟨rfl, _, HW.pick [0] (by decide), A1, k1, A9, k9, A3, k3, by rw [spend_has (hyq rfl) (by omega)]; rfl, hb1.toS HW hks, hS9.toR H8 (fun x hx _ => ⟨hnb x hx, .inr (by omega)⟩), ?_⟩, fun h => absurd hmay h⟩
                  rw [spend_has (hyq rfl) (by omega)]
                  exact hb3.toM HW hks
                · skip
                  refine ops_val (ex_pick_t rfl rfl) ?_
                  refine ops_nil ?_
                  refine nR98 ?_
                  refine run_cond_false rfl ?_
                  refine run_skip ?_
                  refine run_seq ?_
                  refine run_region ?_
                  refine ops_val (ex_move rfl) ?_
                  refine ops_val (ex_nilCheck rfl) ?_
                  refine ops_val (ex_fieldAddr fl41_2 rfl) ?_
                  refine ops_val (ex_load ty39 rfl (H8.cell (i := 0) rfl rfl)) ?_
                  refine nO98 ?_
                  refine ops_call (ex_call gf89 rfl) (cloneM A3 b.last.length k3 pm.flatten _ (hrm.move (by decide) ham (HB.all H8) hks).1 (ones_flatten hon) (by omega)) ?_
                  rintro _ w9 ⟨gv, cv, sv, rfl, hmv, hcv, hgv0, Hc⟩
                  have H9 := H8.call0 Hc
                  refine ops_val (ex_makeFunc rfl rfl) ?_
                  refine ops_call (ex_call gf113 rfl) (deleteM gv cv b.last.length pm hplen sv 114 _ (mkIs n.client) _ (H9.pick [3] (by decide)).here hpm hon (by omega) (by omega) hcv (prd_spent hm2 (H9.at (i := 1) rfl) rfl) (row_not H9 (i := 1) (is := [3]) rfl (by decide))) ?_
                  rintro _ w10 ⟨sv2, rfl, hl2, Hd⟩
                  have H10 := (H9.callr [3] rfl Hd).pick [0, 1, 2, 4] (by decide)
                  have hmf := hm2.filter (f := fun p => !mkIs n.client p) (g := fun x => !decide (x.client = n.client)) (fun p x h => mkIs_neq h)
                  have hmfl := hmf.len
                  have hpf : Pl 7 (pm.filter fun p => !mkIs n.client p) := hpm.sub fun x hx => (List.mem_filter.1 hx).1
                  have hfl3 : (pm.filter fun p => !mkIs n.client p).length ≤ pm.length := List.length_filter_le _ _
                  have honf : ∀ p ∈ (pm.filter fun p => !mkIs n.client p), p.all (·.oneCell') = true := fun x hx => hon x (List.mem_filter.1 hx).1
                  have HC := H10
                  refine ops_val (ex_assign rfl) ?_
                  refine ops_nil ?_
                  refine nR98 ?_
                  refine run_seq ?_
                  refine run_region ?_
                  refine ops_val (ex_assign rfl) ?_
                  refine ops_nil ?_
                  refine nR98 ?_
                  refine run_seq ?_
                  refine run_block ?_
                  refine run_loop (fun nQ lQ w => ∃ (i : Nat) (y : Int), (pm.filter fun p => !mkIs n.client p).length - i = nQ ∧ Fits [some (.pointer (some ⟨gb, 0, none⟩)), none, none, some (.pointer (some ⟨g1, 0, none⟩)), none, none, none, none, none, some (.slice (hd gv) (pm.filter fun p => !mkIs n.client p).length cv), some (.int .i64 y), none, none, none, none, none, none, none, none, none, none, none, none, none, none, none, none, none, none, none, none, none, none, none, none, none, none, none, none, none, none, none, none, none, none, none, none, none, none, none, none, none, none, none, none, none, none, none, none, none, none, none, none, none, none, none, none, none, none, none, none, none, none, none, none, none, none, none, none, none, none, none, none, none, none, none, none, none, none, none, none, none, none, none, none, none, none, none] lQ ∧ y = (i : Int) ∧ i ≤ (pm.filter fun p => !mkIs n.client p).length ∧ (∀ (k : Nat) (m : Mk), k < i → (b.last.filter fun x => !decide (x.client = n.client))[k]? = some m → m.client < n.client) ∧ Hp w10 w [] []) ((pm.filter fun p => !mkIs n.client p).length) ?_ ?_
                  · exact ⟨0, _, rfl, (fs (fn (fn (fs (fn (fn (fn (fn (fn (fs (fs (fn (fn (fn (fn (fn (fn (fn (fn (fn (fn (fn (fn (fn (fn (fn (fn (fn (fn (fn (fn (fn (fn (fn (fn (fn (fn (fn (fn (fn (fn (fn (fn (fn (fn (fn (fn (fn (fn (fn (fn (fn (fn (fn (fn (fn (fn (fn (fn (fn (fn (fn (fn (fn (fn (fn (fn (fn (fn (fn (fn (fn (fn (fn (fn (fn (fn (fn (fn (fn (fn (fn (fn (fn (fn (fn (fn (fn (fn (fn (fn (fn (fn (fn (fn (fn (fn (fn f0)))))))))))))))))))))))))))))))))))))))))))))))))))))))))))))))))))))))))))))))))))))))))))))))))), rfl, Nat.zero_le _, (fun k m h => by omega), Hp.refl _⟩
                  · rintro nQ lQ w11 ⟨i, y, rfl, hfit, rfl, hi, hlo, H11⟩
                    obtain ⟨j, rfl⟩ := hfit.open
                    refine nR98 ?_
                    clear hfit
                    refine run_seq ?_
                    refine run_seq ?_
                    refine run_still mixed (by kernel_rfl) ?_
                    rintro w12 hw12
                    have H12 := Hp.drew H11; rw [← hw12] at H12
                    refine still_val (ex_move rfl) ?_
                    refine still_val (ex_move rfl) ?_
                    refine still_val (ex_len_slice Tryz.underlying39 rfl) ?_
                    refine still_test (ex_lss rfl rfl) (fun hp73 => ?_) (fun hp73 => ?_)
                    · have hil : i < (pm.filter fun p => !mkIs n.client p).length := by omega
                      obtain ⟨p1, hp1⟩ := get_of hil
                      obtain ⟨x, hx, hR⟩ := hmf.getL hp1
                      unfold MkR at hR
                      subst hR
                      have hc0 : ((pm.filter fun p => !mkIs n.client p).flatten ++ sv2)[0 + i * 7 + 0]? = some (.int .i64 x.client) := by
                        have h1 := hpf.get hp1 (j := 0) (u := .int .i64 x.client) rfl
                        show (_ ++ _)[0 + i * 7 + 0]? = _
                        rw [Nat.zero_add, List.getElem?_append_left (lt_of_get h1)]; exact h1
                      obtain ⟨gz, rfl⟩ := own_some HC (i := 3) rfl (by have := lt_of_get hc0; omega)
                      refine still_val (ex_move rfl) ?_
                      refine nS98 ?_
                      refine still_yes rfl ?_
                      refine still_val (ex_move rfl) ?_
                      refine still_yes rfl ?_
                      refine still_val (ex_move rfl) ?_
                      refine nS98 ?_
                      refine still_yes rfl ?_
                      refine still_val (ex_idxN Tryz.underlying39 ty110 rfl rfl rfl hil) ?_
                      refine still_yes rfl ?_
                      refine still_val (ex_fieldAddr fl110_0 rfl) ?_
                      refine nS98 ?_
                      refine still_yes rfl ?_
                      refine still_val (ex_load ty3 rfl ((HC.callN H12).cell (i := 3) rfl hc0)) ?_
                      refine still_yes rfl ?_
                      refine still_val (ex_fieldAddr fl81_6 rfl) ?_
                      refine nS98 ?_
                      refine still_yes rfl ?_
                      refine still_val (ex_load ty3 rfl ((HC.callN H12).cell (i := 1) rfl rfl)) ?_
                      refine still_yes rfl ?_
                      refine still_test (ex_lss rfl rfl) (fun hp82 => ?_) (fun hp82 => ?_)
                      · skip
                        refine still_val (ex_pick_t rfl rfl) ?_
                        refine still_nil ?_
                        refine nR98 ?_
                        refine run_cond_true rfl ?_
                        refine run_skip ?_
                        refine run_block ?_
                        refine run_region ?_
                        refine ops_val (ex_move rfl) ?_
                        refine ops_val (ex_add rfl rfl (IntWalk.i64_in _ (by omega))) ?_
                        refine ops_val (ex_assign rfl) ?_
                        refine ops_nil ?_
                        refine nR98 ?_
                        refine run_nil (blk_normal ?_)
                        refine run_nil (rnd_normal ?_)
                        exact ⟨(pm.filter fun p => !mkIs n.client p).length - (i + 1), by omega, i + 1, _, rfl, (fs (fn (fn (fs (fn (fn (fn (fn (fn (fs (fs (fn (fn (fn (fn (fn (fn (fn (fn (fn (fn (fn (fn (fn (fn (fn (fn (fn (fn (fn (fn (fn (fn (fn (fn (fn (fn (fn (fn (fn (fn (fn (fn (fn (fn (fn (fn (fn (fn (fn (fn (fn (fn (fn (fn (fn (fn (fn (fn (fn (fn (fn (fn (fn (fn (fn (fn (fn (fn (fn (fn (fn (fn (fn (fn (fn (fn (fn (fn (fn (fn (fn (fn (fn (fn (fn (fn (fn (fn (fn (fn (fn (fn (fn (fn (fn (fn (fn f0)))))))))))))))))))))))))))))))))))))))))))))))))))))))))))))))))))))))))))))))))))))))))))))))))), by omega, by omega, fun k m hk hm => by
                          rcases Nat.lt_or_eq_of_le (show k ≤ i by omega) with h | rfl
                          · exact hlo k m h hm
                          · rw [hx] at hm
                            simp only [Option.some.injEq] at hm
                            subst hm; exact hp82, H12⟩
                      · skip
                        refine still_val (ex_pick_t rfl rfl) ?_
                        refine still_nil ?_
                        refine nR98 ?_
                        refine run_cond_false rfl ?_
                        refine run_exit ?_
                        refine rnd_exit ?_
                        refine blk_exit ?_
                        refine run_seq ?_
                        refine run_region ?_
                        replace H12 := HC.callN H12
                        refine ops_val (ex_move rfl) ?_
                        refine ops_val (ex_move rfl) ?_
                        refine ops_val (ex_move rfl) ?_
                        refine ops_val (ex_fieldAddr fl81_6 rfl) ?_
                        refine nO98 ?_
                        refine ops_val (ex_load ty3 rfl (H12.cell (i := 1) rfl rfl)) ?_
                        refine ops_val (ex_fieldAddr fl81_7 rfl) ?_
                        refine ops_val (ex_load ty3 rfl (H12.cell (i := 1) rfl rfl)) ?_
                        refine ops_val (ex_build ty110 pl110 rfl rfl) ?_
                        refine nO98 ?_
                        refine ops_buildSlice Tryz.underlying39 ty110 H12 rfl (by decide) rfl ?_
                        intro w13 g13 H13 hg13
                        refine ops_call (ex_call gf115 rfl) (insertM _ cv i _ (pm.filter fun p => !mkIs n.client p).length (pm.filter fun p => !mkIs n.client p) rfl (mkC ⟨n.client, n.seq⟩) sv2 _ (H13.pick [3] (by decide)).here hpf honf (by omega) (by rw [hl2]; exact hcv) hgv0 (by omega) (H13.at (i := 4) rfl) rfl rfl (row_not H13 (i := 4) (is := [3]) rfl (by decide)) (by omega)) ?_
                        rintro _ w14 ⟨gw, cw, sw, rfl, hnw, hcw, hgw, Hd⟩
                        have H14 := (H13.callr [3] rfl Hd).pick [0, 1, 2, 5] (by decide)
                        refine ops_val (ex_nilCheck rfl) ?_
                        refine ops_val (ex_fieldAddr fl41_2 rfl) ?_
                        refine nO98 ?_
                        refine ops_store1 ty39 H14 0 rfl rfl rfl rfl (by first | (simp; done) | simp [putAt]) rfl ?_
                        intro w15 H15
                        refine ops_nil ?_
                        refine nR98 ?_
                        refine run_seq ?_
                        refine run_region ?_
                        refine ops_val (ex_assign rfl) ?_
                        refine ops_nil ?_
                        refine nR98 ?_
                        refine run_ret ?_
                        refine fin_ret1 rfl rfl ?_
                        have HW := HB.all H15
                        have hput := putMk_del (v := ⟨n.client, n.seq⟩) (i := i) (mks_rise hg.mks).2 (by rw [← hmfl]; omega) hlo (.inr ⟨x, hx, hp82⟩)
                        have hsp : spend b.last n.client n.seq = putMk b.last ⟨n.client, n.seq⟩ := spend_more (by omega) (hyq rfl) (by omega)
                        rw [← hput] at hsp
                        have hln : ((b.last.filter fun x => !decide (x.client = n.client)).take i ++ (⟨n.client, n.seq⟩ : Mk) :: (b.last.filter fun x => !decide (x.client = n.client)).drop i).length = (pm.filter fun p => !mkIs n.client p).length + 1 := by rw [List.length_append, List.length_cons, List.length_take, List.length_drop, ← hmfl]; omega
                        refine ⟨fun _ => ⟨rfl, _, HW.pick [0] (by decide), A1, k1, A9, k9, hd gw, cw, by rw [hsp, hln]; rfl, hb1.toS HW hks, hS9.toR H15 (fun x hx _ => ⟨hnb x hx, .inr (by omega)⟩), ?_⟩, fun h => absurd hmay h⟩
                        rw [hsp]
                        exact Sl.row HW (i := 3) rfl ((hpf.sub fun x hx => List.mem_of_mem_take hx).app fun x hx => by
                          rcases List.mem_cons.1 hx with rfl | hx
                          · rfl
                          · exact hpf x (List.mem_of_mem_drop hx)) (by decide) ((hmf.take i).app ⟨rfl, hmf.drop i⟩) (fun b hb => row_new (ok := ok) HW (i := 3) rfl (fun c hc => by rw [List.mem_singleton.1 hc]; exact fun e => HW.ne (i := 3) (j := 0) (g := gb) (by rw [e]; rfl) rfl (by decide) rfl) b hb)
                    · skip
                      refine still_val (ex_move rfl) ?_
                      refine nS98 ?_
                      refine still_no rfl ?_
                      refine still_no rfl ?_
                      refine nS98 ?_
                      refine still_no rfl ?_
                      refine still_no rfl ?_
                      refine nS98 ?_
                      refine still_no rfl ?_
                      refine still_no rfl ?_
                      refine nS98 ?_
                      refine still_no rfl ?_
                      refine still_no rfl ?_
                      refine still_val (ex_pick_f rfl rfl) ?_
                      refine still_nil ?_
                      refine nR98 ?_
                      refine run_cond_false rfl ?_
                      refine run_exit ?_
                      refine rnd_exit ?_
                      refine blk_exit ?_
                      refine run_seq ?_
                      refine run_region ?_
                      replace H12 := HC.callN H12
                      refine ops_val (ex_move rfl) ?_
                      refine ops_val (ex_move rfl) ?_
                      refine ops_val (ex_move rfl) ?_
                      refine ops_val (ex_fieldAddr fl81_6 rfl) ?_
                      refine nO98 ?_
                      refine ops_val (ex_load ty3 rfl (H12.cell (i := 1) rfl rfl)) ?_
                      refine ops_val (ex_fieldAddr fl81_7 rfl) ?_
                      refine ops_val (ex_load ty3 rfl (H12.cell (i := 1) rfl rfl)) ?_
                      refine ops_val (ex_build ty110 pl110 rfl rfl) ?_
                      refine nO98 ?_
                      refine ops_buildSlice Tryz.underlying39 ty110 H12 rfl (by decide) rfl ?_
                      intro w13 g13 H13 hg13
                      refine ops_call (ex_call gf115 rfl) (insertM _ cv i _ (pm.filter fun p => !mkIs n.client p).length (pm.filter fun p => !mkIs n.client p) rfl (mkC ⟨n.client, n.seq⟩) sv2 _ (H13.pick [3] (by decide)).here hpf honf (by omega) (by rw [hl2]; exact hcv) hgv0 (by omega) (H13.at (i := 4) rfl) rfl rfl (row_not H13 (i := 4) (is := [3]) rfl (by decide)) (by omega)) ?_
                      rintro _ w14 ⟨gw, cw, sw, rfl, hnw, hcw, hgw, Hd⟩
                      have H14 := (H13.callr [3] rfl Hd).pick [0, 1, 2, 5] (by decide)
                      refine ops_val (ex_nilCheck rfl) ?_
                      refine ops_val (ex_fieldAddr fl41_2 rfl) ?_
                      refine nO98 ?_
                      refine ops_store1 ty39 H14 0 rfl rfl rfl rfl (by first | (simp; done) | simp [putAt]) rfl ?_
                      intro w15 H15
                      refine ops_nil ?_
                      refine nR98 ?_
                      refine run_seq ?_
                      refine run_region ?_
                      refine ops_val (ex_assign rfl) ?_
                      refine ops_nil ?_
                      refine nR98 ?_
                      refine run_ret ?_
                      refine fin_ret1 rfl rfl ?_
                      have HW := HB.all H15
                      have hput := putMk_del (v := ⟨n.client, n.seq⟩) (i := i) (mks_rise hg.mks).2 (by rw [← hmfl]; omega) hlo (.inl (by rw [← hmfl]; omega))
                      have hsp : spend b.last n.client n.seq = putMk b.last ⟨n.client, n.seq⟩ := spend_more (by omega) (hyq rfl) (by omega)
                      rw [← hput] at hsp
                      have hln : ((b.last.filter fun x => !decide (x.client = n.client)).take i ++ (⟨n.client, n.seq⟩ : Mk) :: (b.last.filter fun x => !decide (x.client = n.client)).drop i).length = (pm.filter fun p => !mkIs n.client p).length + 1 := by rw [List.length_append, List.length_cons, List.length_take, List.length_drop, ← hmfl]; omega
                      refine ⟨fun _ => ⟨rfl, _, HW.pick [0] (by decide), A1, k1, A9, k9, hd gw, cw, by rw [hsp, hln]; rfl, hb1.toS HW hks, hS9.toR H15 (fun x hx _ => ⟨hnb x hx, .inr (by omega)⟩), ?_⟩, fun h => absurd hmay h⟩
                      rw [hsp]
                      exact Sl.row HW (i := 3) rfl ((hpf.sub fun x hx => List.mem_of_mem_take hx).app fun x hx => by
                        rcases List.mem_cons.1 hx with rfl | hx
                        · rfl
                        · exact hpf x (List.mem_of_mem_drop hx)) (by decide) ((hmf.take i).app ⟨rfl, hmf.drop i⟩) (fun b hb => row_new (ok := ok) HW (i := 3) rfl (fun c hc => by rw [List.mem_singleton.1 hc]; exact fun e => HW.ne (i := 3) (j := 0) (g := gb) (by rw [e]; rfl) rfl (by decide) rfl) b hb)
  · obtain rfl := hno hmay
    refine ops_nil ?_
    refine ⟨fun hne => H3.pick [0, 1] (by decide), ?_⟩
    refine mixz_p rfl ?_
    refine mix1_val (fun wz hz => ex_move rfl) ?_
    refine mixz_p rfl ?_
    refine mix1_val (fun wz hz => ex_extract rfl rfl) ?_
    refine nZ98 ?_
    refine mixz_p rfl ?_
    refine mix1_val (fun wz hz => ex_extract rfl rfl) ?_
    refine mixz_p rfl ?_
    refine mix1_val (fun wz hz => ex_assign rfl) ?_
    refine mixz_o rfl ?_
    refine ops_val (ex_assign rfl) ?_
    refine ops_nil ?_
    refine ⟨fun hne => absurd rfl hne, ?_⟩
    refine nZ98 ?_
    refine mixz_nil ?_
    refine nR98 ?_
    refine run_seq ?_
    refine run_seq ?_
    refine run_region ?_
    refine ops_val (ex_move rfl) ?_
    refine ops_true (ex_neq rfl rfl) (by decide) ?_
    refine ops_nil ?_
    refine nR98 ?_
    refine run_cond_true rfl ?_
    refine run_seq ?_
    refine run_region ?_
    refine ops_val (ex_assign rfl) ?_
    refine ops_nil ?_
    refine nR98 ?_
    refine run_ret ?_
    refine fin_ret1 rfl rfl ?_
    exact ⟨fun h => absurd h hmay, fun _ => ⟨rfl, H3.noRows⟩⟩
end Go.Proofs.YtjoeklkmnfaabaaGreat
/- Walks of layer 2, printed by wip/gen/codec.py. -/
namespace Go.Proofs.YtjoeklkmnfaabaaGreat
open Go Go.RowKit
set_option linter.unusedVariables false
attribute [local irreducible] Still Ops Does Cd
theorem promise_s (gs : Nat) (s : Sv) (A1 : Option Addr) (k1 : Nat) (A2 : Option Addr) (k2 : Nat) (A3 : Option Addr) (k3 : Nat) (n : Nt) (B1 : Option Addr) (j1 : Nat) (B2 : Option Addr) (j2 : Nat) (w0 : World) (hrow : w0.heap[gs]? = some (.cells [.int .i64 s.p.r, .int .i64 s.p.n, .slice A1 s.votes.length k1, .int .i64 s.index, .slice A2 s.image.length k2, .slice A3 s.entries.length k3].toArray 97 (0, 0))) (ok : Nat → Prop) (hok : ¬ ok gs) (hv1 : Sl (VtR w0 ok) 4 w0 ok A1 s.votes) (hv2 : Bs w0 ok A2 s.image) (hv3 : Sl (EnR w0 ok) 2 w0 ok A3 s.entries) :
    Does Tryz.prog 116 #[.pointer (some ⟨gs, 0, none⟩), .agg [.int .i64 n.kind, .int .i64 n.group, .int .i64 n.b.r, .int .i64 n.b.n, .int .i64 n.vote.slot, .int .i64 n.vote.b.r, .int .i64 n.vote.b.n, .slice B1 n.vote.val.length j1, .int .i64 n.entry.slot, .slice B2 n.entry.val.length j2, .int .i64 n.right.g, strV n.right.key, .int .i64 n.right.lease, .int .i64 n.right.net, .int .i64 n.client, .int .i64 n.seq].toArray] w0 (fun _ w' => ∃ cs', Hp w0 w' [gs] [((some gs, 97, cs') : Ent)] ∧ SvR w' (up ok w0.heap.size) cs' (s.raise n.b)) := by
  refine (promise_v gs s.p _ _ _ _ n B1 j1 B2 j2 w0 hrow).mono fun r w' H => ?_
  have hks := up_k (n := w0.heap.size) (ok := ok) (S := [gs]) fun x hx hg => hok (by rw [← List.mem_singleton.1 hg]; exact hx)
  rw [raise_eq]
  exact ⟨_, H, A1, k1, A2, k2, A3, k3, rfl, hv1.toV H hks, hv2.to H hks, hv3.toE H hks⟩
set_option maxRecDepth 100000 in
set_option maxHeartbeats 32000000 in
theorem goes_v (gb : Nat) (b : Bo) (A1 : Option Addr) (k1 : Nat) (A2 : Option Addr) (k2 : Nat) (A3 : Option Addr) (k3 : Nat) (n : Nt) (B1 : Option Addr) (j1 : Nat) (B2 : Option Addr) (j2 : Nat) (okn : Nat → Prop) (N : Nat) (w0 : World) (hrow : w0.heap[gb]? = some (.cells [.slice A1 b.groups.length k1, .slice A2 b.rights.length k2, .slice A3 b.last.length k3].toArray 41 (0, 0))) (ok : Nat → Prop) (hok : ¬ ok gb) (hb1 : Sl (SvR w0 ok) 6 w0 ok A1 b.groups) (hb2 : Sl RtR 4 w0 ok A2 b.rights) (hb3 : Sl MkR 7 w0 ok A3 b.last) (hokn : ¬ okn gb) (hbv : Bs w0 okn B1 n.vote.val) (hbe : Bs w0 okn B2 n.entry.val) (hg : Good b N) (hN : N ≤ 900000000000) :
    Does Tryz.prog 32 #[.pointer (some ⟨gb, 0, none⟩), .agg [.int .i64 n.kind, .int .i64 n.group, .int .i64 n.b.r, .int .i64 n.b.n, .int .i64 n.vote.slot, .int .i64 n.vote.b.r, .int .i64 n.vote.b.n, .slice B1 n.vote.val.length j1, .int .i64 n.entry.slot, .slice B2 n.entry.val.length j2, .int .i64 n.right.g, strV n.right.key, .int .i64 n.right.lease, .int .i64 n.right.net, .int .i64 n.client, .int .i64 n.seq].toArray] w0 (fun r w' => (∀ b', b.into n = some b' → r = .bool true ∧ ∃ cs', Hp w0 w' [gb] [((some gb, 41, cs') : Ent)] ∧ BoR w' (up ok w0.heap.size) cs' b') ∧ (b.into n = none → r = .bool false ∧ Hp w0 w' [gb] [])) := by
  refine does_of Tryz.func32 Tryz.ntmps32 rfl ?_
  refine nR58 ?_
  have H := Hp.old hrow
  have hks := up_k (n := w0.heap.size) (ok := ok) (S := [gb]) fun x hx hg => hok (by rw [← List.mem_singleton.1 hg]; exact hx)
  have hkB : ∀ x, ok x → x < w0.heap.size → x ∉ [gb] ∧ (ok x ∧ x < w0.heap.size) := fun x hx hl => ⟨(hks x hx hl).1, hx, hl⟩
  have hkn : ∀ x, okn x → x < w0.heap.size → x ∉ [gb] ∧ (okn x ∧ x < w0.heap.size) := fun x hx hl => ⟨fun hg => hokn (by rw [← List.mem_singleton.1 hg]; exact hx), hx, hl⟩
  obtain ⟨pg, hpg, hrg, hag, h2g⟩ := id hb1
  have hgl := h2g.len
  have h8 := hg.eight
  have hong := h2g.ones fun _ _ h => h.ones
  refine run_seq ?_
  refine run_region ?_
  refine ops_box rfl rfl H ?_
  intro w1 g1 H1 hg1
  refine ops_val (ex_assign rfl) ?_
  refine ops_nil ?_
  refine nR58 ?_
  refine run_seq ?_
  refine run_seq ?_
  refine run_region ?_
  refine ops_val (ex_fieldAddr fl81_0 rfl) ?_
  refine ops_val (ex_load ty3 rfl (H1.cell (i := 1) rfl rfl)) ?_
  refine ops_test (ex_eql rfl rfl) (fun hp9 => ?_) (fun hp9 => ?_)
  · skip
    refine ops_nil ?_
    refine nR58 ?_
    refine run_cond_true rfl ?_
    refine run_seq ?_
    refine run_region ?_
    refine ops_val (ex_move rfl) ?_
    refine ops_val (ex_loadN ty81 rfl (vs := [.int .i64 n.kind, .int .i64 n.group, .int .i64 n.b.r, .int .i64 n.b.n, .int .i64 n.vote.slot, .int .i64 n.vote.b.r, .int .i64 n.vote.b.n, .slice B1 n.vote.val.length j1, .int .i64 n.entry.slot, .slice B2 n.entry.val.length j2, .int .i64 n.right.g, strV n.right.key, .int .i64 n.right.lease, .int .i64 n.right.net, .int .i64 n.client, .int .i64 n.seq]) rfl (H1.cellsR (i := 1) rfl rfl)) ?_
    have HZ0 := H1
    refine ops_call (ex_call gf66 rfl) (spent_v gb b A1 k1 A2 k2 A3 k3 n B1 j1 B2 j2 N _ (H1.at (i := 0) rfl) (up ok w0.heap.size) (fun hh => by rcases hh with h | h; exact hok h; have := (Array.getElem?_eq_some_iff.1 hrow).1; omega) (hb1.toS H1 hks) (hb2.toR H1 hks) (hb3.toM H1 hks) hg hN) ?_
    rintro r w2 ⟨hyes, hno⟩
    by_cases hmay : mayR n.right
    · obtain ⟨rfl, cs', Hd, hB⟩ := hyes hmay
      have hszp := HZ0.size
      have HN9 := (HZ0.callr [0] rfl Hd).pick [2] (by decide)
      refine ops_val (ex_assign rfl) ?_
      refine ops_nil ?_
      refine nR58 ?_
      refine run_ret ?_
      refine fin_ret1 rfl rfl ?_
      exact ⟨fun b' hb' => by
        rw [into_right hp9 hmay] at hb'
        simp only [Option.some.injEq] at hb'
        subst hb'
        exact ⟨rfl, cs', HN9, hB.to (Hp.refl _) (fun x hx _ => ⟨by simp, by
          rcases hx with hx | hx
          · exact hx
          · exact .inr (by omega)⟩)⟩, fun h => by rw [into_right hp9 hmay] at h; cases h⟩
    · obtain ⟨rfl, Hd⟩ := hno hmay
      have HN9 := (HZ0.callr [0] rfl Hd).noRows
      refine ops_val (ex_assign rfl) ?_
      refine ops_nil ?_
      refine nR58 ?_
      refine run_ret ?_
      refine fin_ret1 rfl rfl ?_
      exact ⟨(fun b' hb' => by rw [into_wrong hp9 hmay] at hb'; cases hb'), fun _ => ⟨rfl, HN9⟩⟩
  · skip
    refine ops_nil ?_
    refine nR58 ?_
    refine run_cond_false rfl ?_
    refine run_skip ?_
    refine run_seq ?_
    refine run_region ?_
    refine ops_val (ex_fieldAddr fl81_0 rfl) ?_
    refine ops_val (ex_load ty3 rfl (H1.cell (i := 1) rfl rfl)) ?_
    refine ops_call (ex_call gf67 rfl) (table_v n.kind _) ?_
    rintro r w2 ⟨h0, h1, h2, h3, h4, Hd⟩
    have H2 := H1.callN Hd
    obtain hk | hk | hk | hk | hk : (n.kind < 1 ∨ 4 < n.kind) ∨ n.kind = 1 ∨ n.kind = 2 ∨ n.kind = 3 ∨ n.kind = 4 := by omega
    · obtain rfl := h0 hk
      refine ops_val (ex_assign rfl) ?_
      refine ops_nil ?_
      refine nR58 ?_
      refine run_seq ?_
      refine run_seq ?_
      refine run_region ?_
      refine ops_val (ex_move rfl) ?_
      refine ops_val (ex_eql_func0 Tryz.underlying136 rfl) ?_
      refine ops_val (ex_move rfl) ?_
      refine nO58 ?_
      refine ops_no rfl ?_
      refine ops_no rfl ?_
      refine nO58 ?_
      refine ops_no rfl ?_
      refine ops_val (ex_pick_t rfl rfl) ?_
      refine ops_val (ex_move rfl) ?_
      refine nO58 ?_
      refine ops_no rfl ?_
      refine ops_no rfl ?_
      refine nO58 ?_
      refine ops_no rfl ?_
      refine ops_val (ex_pick_t rfl rfl) ?_
      refine ops_nil ?_
      refine nR58 ?_
      refine run_cond_true rfl ?_
      refine run_seq ?_
      refine run_region ?_
      refine ops_val (ex_assign rfl) ?_
      refine ops_nil ?_
      refine nR58 ?_
      refine run_ret ?_
      refine fin_ret1 rfl rfl ?_
      exact ⟨(fun b' hb' => by rw [into_bad hp9 (by omega)] at hb'; cases hb'), fun _ => ⟨rfl, H2.noRows⟩⟩
    · obtain rfl := h1 hk
      refine ops_val (ex_assign rfl) ?_
      refine ops_nil ?_
      refine nR58 ?_
      refine run_seq ?_
      refine run_seq ?_
      refine run_region ?_
      refine ops_val (ex_move rfl) ?_
      refine ops_val (ex_eql_func Tryz.underlying136 rfl) ?_
      refine ops_val (ex_move rfl) ?_
      refine nO58 ?_
      refine ops_yes rfl ?_
      refine ops_val (ex_fieldAddr fl81_1 rfl) ?_
      refine ops_yes rfl ?_
      refine ops_val (ex_load ty3 rfl (H2.cell (i := 1) rfl rfl)) ?_
      refine nO58 ?_
      refine ops_yes rfl ?_
      refine ops_test (ex_lss rfl rfl) (fun hp21 => ?_) (fun hp21 => ?_)
      · skip
        refine ops_val (ex_pick_f rfl rfl) ?_
        refine ops_val (ex_move rfl) ?_
        refine nO58 ?_
        refine ops_no rfl ?_
        refine ops_no rfl ?_
        refine nO58 ?_
        refine ops_no rfl ?_
        refine ops_val (ex_pick_t rfl rfl) ?_
        refine ops_nil ?_
        refine nR58 ?_
        refine run_cond_true rfl ?_
        refine run_seq ?_
        refine run_region ?_
        refine ops_val (ex_assign rfl) ?_
        refine ops_nil ?_
        refine nR58 ?_
        refine run_ret ?_
        refine fin_ret1 rfl rfl ?_
        exact ⟨(fun b' hb' => by rw [into_bad hp9 (by omega)] at hb'; cases hb'), fun _ => ⟨rfl, H2.noRows⟩⟩
      · skip
        refine ops_val (ex_pick_f rfl rfl) ?_
        refine ops_val (ex_move rfl) ?_
        refine nO58 ?_
        refine ops_yes rfl ?_
        refine ops_val (ex_fieldAddr fl81_1 rfl) ?_
        refine ops_yes rfl ?_
        refine ops_val (ex_load ty3 rfl (H2.cell (i := 1) rfl rfl)) ?_
        refine nO58 ?_
        refine ops_yes rfl ?_
        refine ops_test (ex_geq rfl rfl) (fun hp26 => ?_) (fun hp26 => ?_)
        · skip
          refine ops_val (ex_pick_f rfl rfl) ?_
          refine ops_nil ?_
          refine nR58 ?_
          refine run_cond_true rfl ?_
          refine run_seq ?_
          refine run_region ?_
          refine ops_val (ex_assign rfl) ?_
          refine ops_nil ?_
          refine nR58 ?_
          refine run_ret ?_
          refine fin_ret1 rfl rfl ?_
          exact ⟨(fun b' hb' => by rw [into_bad hp9 (by omega)] at hb'; cases hb'), fun _ => ⟨rfl, H2.noRows⟩⟩
        · obtain ⟨s, hs⟩ := get_of (l := b.groups) (j := n.group.toNat) (by omega)
          have hsl := lt_of_get hs
          obtain ⟨p1, hp1, hR⟩ := h2g.get hs
          obtain ⟨C1, q1, C2, q2, C3, q3, rfl, hv1, hv2, hv3⟩ := hR
          obtain ⟨a1, ha1⟩ := hrg.some_ (by omega)
          subst ha1
          have hce := (chk_iff s).1 (hg.chk s (mem_of hs))
          have hvfew := vts_few hce
          have hefew := ents_few hce
          have hglen := goes_len s n
          refine ops_val (ex_pick_f rfl rfl) ?_
          refine ops_nil ?_
          refine nR58 ?_
          refine run_cond_false rfl ?_
          refine run_skip ?_
          refine run_seq ?_
          refine run_mixZ 9 [(true, 0), (true, 1), (true, 2), (true, 3), (true, 4), (true, 5), (true, 6), (true, 7), (false, 8), (false, 9)] H2 [0, 1] mixed (by decide) (by kernel_rfl) ?_
          rintro w3 hw3
          have H3 := Hp.drew H2; rw [← hw3] at H3
          refine mixz_p rfl ?_
          refine mix1_val (fun wz hz => ex_move rfl) ?_
          refine mixz_p rfl ?_
          refine mix1_val (fun wz hz => ex_nilCheck rfl) ?_
          refine mixz_p rfl ?_
          refine mix1_val (fun wz hz => ex_fieldAddr fl41_0 rfl) ?_
          refine mixz_p rfl ?_
          refine mix1_val (fun wz hz => ex_load ty37 rfl (hz.cell (i := 0) rfl rfl)) ?_
          refine nZ58 ?_
          refine mixz_p rfl ?_
          refine mix1_val (fun wz hz => ex_fieldAddr fl81_1 rfl) ?_
          refine mixz_p rfl ?_
          refine mix1_val (fun wz hz => ex_load ty3 rfl (hz.cell (i := 1) rfl rfl)) ?_
          refine mixz_p rfl ?_
          refine mix1_val (fun wz hz => ex_idx Tryz.underlying37 ty97 rfl rfl (len := b.groups.length) (i := n.group.toNat) (by omega) (by omega) rfl) ?_
          refine mixz_p rfl ?_
          refine mix1_val (fun wz hz => ex_loadN ty97 rfl (vs := [.int .i64 s.p.r, .int .i64 s.p.n, .slice C1 s.votes.length q1, .int .i64 s.index, .slice C2 s.image.length q2, .slice C3 s.entries.length q3]) rfl ((hrg.move (by decide) hag hz hks).1.elem hpg hp1)) ?_
          refine nZ58 ?_
          refine mixz_o rfl ?_
          refine ops_alloc ty97 H3 ?_
          intro w4 gs H4 hgs
          have hgs0 : w0.heap.size ≤ gs := by have := H3.size; omega
          refine ops_nil ?_
          refine ⟨fun hne => H4.pick [0, 1] (by decide), ?_⟩
          refine nZ58 ?_
          refine mixz_o rfl ?_
          refine ops_store ty97 H4 2 rfl rfl rfl rfl rfl (by first | decide | (simp; done) | simp [putAt]) rfl ?_
          intro w5 H5
          refine ops_nil ?_
          refine ⟨fun hne => absurd rfl hne, ?_⟩
          refine nZ58 ?_
          refine mixz_nil ?_
          refine nR58 ?_
          refine run_seq ?_
          refine run_region ?_
          refine ops_val (ex_move rfl) ?_
          refine ops_val (ex_loadN ty81 rfl (vs := [.int .i64 n.kind, .int .i64 n.group, .int .i64 n.b.r, .int .i64 n.b.n, .int .i64 n.vote.slot, .int .i64 n.vote.b.r, .int .i64 n.vote.b.n, .slice B1 n.vote.val.length j1, .int .i64 n.entry.slot, .slice B2 n.entry.val.length j2, .int .i64 n.right.g, strV n.right.key, .int .i64 n.right.lease, .int .i64 n.right.net, .int .i64 n.client, .int .i64 n.seq]) rfl (H5.cellsR (i := 1) rfl rfl)) ?_
          refine ops_call (ex_call_val gf116 rfl rfl) (promise_s gs s C1 q1 C2 q2 C3 q3 n B1 j1 B2 j2 _ (H5.at (i := 2) rfl) (fun x => ok x ∧ x < w0.heap.size) (fun hh => by have := hh.2; omega) (hv1.toV H5 hkB) (hv2.to H5 hkB) (hv3.toE H5 hkB)) ?_
          rintro _ w6 ⟨cs2, Hd, hsv⟩
          have hnp := Hp.fresh H5
          have hszp := H5.size
          have hpl := bl_place H5
          have HB := (H5.callr [2] rfl Hd).pick [0, 1, 3] (by decide)
          rw [← goes1 hk] at hsv
          obtain ⟨D1, e1, D2, e2, D3, e3, rfl, hw1, hw2, hw3⟩ := hsv
          have H6 := HB.here
          have hnk : ∀ x, up (fun x => ok x ∧ x < w0.heap.size) w5.heap.size x → x ∉ bl _ := fun x hx hb => (show False from by
            rcases hx with hx | hx
            · rcases hpl x hb with h | h
              · exact (hks x hx.1 hx.2).1 h
              · have := hx.2; omega
            · exact hnp x hx hb)
          have hkk : ∀ x, up (fun x => ok x ∧ x < w0.heap.size) w5.heap.size x → x < w6.heap.size → x ∉ bl _ ∧ up ok w0.heap.size x := fun x hx _ => ⟨hnk x hx, by
            rcases hx with hx | hx
            · exact .inl hx.1
            · exact .inr (by omega)⟩
          refine ops_nil ?_
          refine nR58 ?_
          refine run_seq ?_
          refine run_seq ?_
          refine run_region ?_
          refine ops_val (ex_loadN ty97 rfl (vs := [.int .i64 (s.goes n).p.r, .int .i64 (s.goes n).p.n, .slice D1 (s.goes n).votes.length e1, .int .i64 (s.goes n).index, .slice D2 (s.goes n).image.length e2, .slice D3 (s.goes n).entries.length e3]) rfl (H6.cellsR (i := 2) rfl rfl)) ?_
          refine ops_call (ex_call gf68 rfl) (check_p (s.goes n) D1 e1 D2 e2 D3 e3 _ _ hw1 hw2 hw3 (by omega) (by omega)) ?_
          rintro _ w7 ⟨e, rfl, hans, Hd⟩
          have H7 := H6.callN Hd
          refine ops_test (ex_neq rfl rfl) (fun hp41 => ?_) (fun hp41 => ?_)
          · skip
            refine ops_nil ?_
            refine nR58 ?_
            refine run_cond_true rfl ?_
            refine run_seq ?_
            refine run_region ?_
            refine ops_val (ex_assign rfl) ?_
            refine ops_nil ?_
            refine nR58 ?_
            refine run_ret ?_
            refine fin_ret1 rfl rfl ?_
            exact ⟨(fun b' hb' => by rw [into_no hp9 hs (by cases hc : chk (s.goes n) with | false => rfl | true => exact absurd (hans.1 hc) hp41)] at hb'; cases hb'), fun _ => ⟨rfl, (HB.all H7).noRows⟩⟩
          · have hchk : chk (s.goes n) = true := by cases hc : chk (s.goes n) with | true => rfl | false => have := hans.2 hc; omega
            refine ops_nil ?_
            refine nR58 ?_
            refine run_cond_false rfl ?_
            refine run_skip ?_
            refine run_seq ?_
            refine run_region ?_
            refine ops_val (ex_move rfl) ?_
            refine ops_val (ex_move rfl) ?_
            refine ops_val (ex_nilCheck rfl) ?_
            refine ops_val (ex_fieldAddr fl41_0 rfl) ?_
            refine nO58 ?_
            refine ops_val (ex_load ty37 rfl (H7.cell (i := 0) rfl rfl)) ?_
            refine ops_call (ex_call gf69 rfl) (cloneS (some a1) b.groups.length k1 pg.flatten _ (hrg.move (by decide) hag (HB.all H7) hks).1 (ones_flatten hong) (by rw [h8]; decide)) ?_
            rintro _ w8 ⟨gv, cv, sv, rfl, hmv, hcv, hgv0, Hc⟩
            have H8 := H7.call0 Hc
            obtain ⟨gw, rfl⟩ := own_some H8 (i := 3) rfl (by rw [List.length_append, hpg.len]; omega)
            refine ops_val (ex_nilCheck rfl) ?_
            refine ops_val (ex_fieldAddr fl41_0 rfl) ?_
            refine nO58 ?_
            refine ops_store1 ty37 H8 0 rfl rfl rfl rfl (by first | (simp; done) | simp [putAt]) rfl ?_
            intro w9 H9
            refine ops_nil ?_
            refine nR58 ?_
            refine run_seq ?_
            refine run_mixZ 8 [(true, 0), (true, 1), (true, 2), (true, 3), (true, 4), (true, 5), (true, 6), (true, 7), (false, 8)] H9 [0, 1, 2, 3] mixed (by decide) (by kernel_rfl) ?_
            rintro w10 hw10
            have H10 := Hp.drew H9; rw [← hw10] at H10
            refine mixz_p rfl ?_
            refine mix1_val (fun wz hz => ex_move rfl) ?_
            refine mixz_p rfl ?_
            refine mix1_val (fun wz hz => ex_nilCheck rfl) ?_
            refine mixz_p rfl ?_
            refine mix1_val (fun wz hz => ex_fieldAddr fl41_0 rfl) ?_
            refine mixz_p rfl ?_
            refine mix1_val (fun wz hz => ex_load ty37 rfl (hz.cell (i := 0) rfl rfl)) ?_
            refine nZ58 ?_
            refine mixz_p rfl ?_
            refine mix1_val (fun wz hz => ex_fieldAddr fl81_1 rfl) ?_
            refine mixz_p rfl ?_
            refine mix1_val (fun wz hz => ex_load ty3 rfl (hz.cell (i := 1) rfl rfl)) ?_
            refine mixz_p rfl ?_
            refine mix1_val (fun wz hz => ex_loadN ty97 rfl (vs := [.int .i64 (s.goes n).p.r, .int .i64 (s.goes n).p.n, .slice D1 (s.goes n).votes.length e1, .int .i64 (s.goes n).index, .slice D2 (s.goes n).image.length e2, .slice D3 (s.goes n).entries.length e3]) rfl (hz.cellsR (i := 2) rfl rfl)) ?_
            refine mixz_p rfl ?_
            refine mix1_val (fun wz hz => ex_idxN Tryz.underlying37 ty97 rfl rfl (len := b.groups.length) (i := n.group.toNat) (by omega) (by omega)) ?_
            refine nZ58 ?_
            refine mixz_o rfl ?_
            refine ops_store ty97 H10 3 rfl rfl rfl rfl rfl (by rw [List.length_append, hpg.len]; show 0 + n.group.toNat * 6 + 6 ≤ _; omega) rfl ?_
            intro w11 H11
            rw [store_elem (sz := 6) (vs := [.int .i64 (s.goes n).p.r, .int .i64 (s.goes n).p.n, .slice D1 (s.goes n).votes.length e1, .int .i64 (s.goes n).index, .slice D2 (s.goes n).image.length e2, .slice D3 (s.goes n).entries.length e3]) hpg (by omega) rfl] at H11
            refine ops_nil ?_
            refine ⟨fun hne => absurd rfl hne, ?_⟩
            refine nZ58 ?_
            refine mixz_nil ?_
            refine nR58 ?_
            refine run_seq ?_
            refine run_region ?_
            refine ops_val (ex_assign rfl) ?_
            refine ops_nil ?_
            refine nR58 ?_
            refine run_ret ?_
            refine fin_ret1 rfl rfl ?_
            have HW := HB.all H11
            refine ⟨fun b' hb' => ?_, fun h => by rw [into_yes hp9 (by omega) hs hchk] at h; cases h⟩
            rw [into_yes hp9 (by omega) hs hchk] at hb'
            simp only [Option.some.injEq] at hb'
            subst hb'
            refine ⟨rfl, _, HW.pick [0] (by decide), hd (some gw), cv, A2, k2, A3, k3, by rw [List.length_set]; rfl, ?_, hb2.toR HW hks, hb3.toM HW hks⟩
            exact Sl.row HW (i := 3) rfl (hpg.set_len rfl) (by decide) ((h2g.imp (R' := SvR w11 (up ok w0.heap.size)) fun p x h => h.to HW hks).set _ ⟨D1, e1, D2, e2, D3, e3, rfl, hw1.toV H11 hkk, hw2.to H11 hkk, hw3.toE H11 hkk⟩) (fun c hc => row_new (ok := ok) HW (i := 3) rfl (fun c hc => by rw [List.mem_singleton.1 hc]; exact fun e => HW.ne (i := 3) (j := 0) (g := gb) (by rw [e]; rfl) rfl (by decide) rfl) c hc)
    · obtain rfl := h2 hk
      refine ops_val (ex_assign rfl) ?_
      refine ops_nil ?_
      refine nR58 ?_
      refine run_seq ?_
      refine run_seq ?_
      refine run_region ?_
      refine ops_val (ex_move rfl) ?_
      refine ops_val (ex_eql_func Tryz.underlying136 rfl) ?_
      refine ops_val (ex_move rfl) ?_
      refine nO58 ?_
      refine ops_yes rfl ?_
      refine ops_val (ex_fieldAddr fl81_1 rfl) ?_
      refine ops_yes rfl ?_
      refine ops_val (ex_load ty3 rfl (H2.cell (i := 1) rfl rfl)) ?_
      refine nO58 ?_
      refine ops_yes rfl ?_
      refine ops_test (ex_lss rfl rfl) (fun hp21 => ?_) (fun hp21 => ?_)
      · skip
        refine ops_val (ex_pick_f rfl rfl) ?_
        refine ops_val (ex_move rfl) ?_
        refine nO58 ?_
        refine ops_no rfl ?_
        refine ops_no rfl ?_
        refine nO58 ?_
        refine ops_no rfl ?_
        refine ops_val (ex_pick_t rfl rfl) ?_
        refine ops_nil ?_
        refine nR58 ?_
        refine run_cond_true rfl ?_
        refine run_seq ?_
        refine run_region ?_
        refine ops_val (ex_assign rfl) ?_
        refine ops_nil ?_
        refine nR58 ?_
        refine run_ret ?_
        refine fin_ret1 rfl rfl ?_
        exact ⟨(fun b' hb' => by rw [into_bad hp9 (by omega)] at hb'; cases hb'), fun _ => ⟨rfl, H2.noRows⟩⟩
      · skip
        refine ops_val (ex_pick_f rfl rfl) ?_
        refine ops_val (ex_move rfl) ?_
        refine nO58 ?_
        refine ops_yes rfl ?_
        refine ops_val (ex_fieldAddr fl81_1 rfl) ?_
        refine ops_yes rfl ?_
        refine ops_val (ex_load ty3 rfl (H2.cell (i := 1) rfl rfl)) ?_
        refine nO58 ?_
        refine ops_yes rfl ?_
        refine ops_test (ex_geq rfl rfl) (fun hp26 => ?_) (fun hp26 => ?_)
        · skip
          refine ops_val (ex_pick_f rfl rfl) ?_
          refine ops_nil ?_
          refine nR58 ?_
          refine run_cond_true rfl ?_
          refine run_seq ?_
          refine run_region ?_
          refine ops_val (ex_assign rfl) ?_
          refine ops_nil ?_
          refine nR58 ?_
          refine run_ret ?_
          refine fin_ret1 rfl rfl ?_
          exact ⟨(fun b' hb' => by rw [into_bad hp9 (by omega)] at hb'; cases hb'), fun _ => ⟨rfl, H2.noRows⟩⟩
        · obtain ⟨s, hs⟩ := get_of (l := b.groups) (j := n.group.toNat) (by omega)
          have hsl := lt_of_get hs
          obtain ⟨p1, hp1, hR⟩ := h2g.get hs
          obtain ⟨C1, q1, C2, q2, C3, q3, rfl, hv1, hv2, hv3⟩ := hR
          obtain ⟨a1, ha1⟩ := hrg.some_ (by omega)
          subst ha1
          have hce := (chk_iff s).1 (hg.chk s (mem_of hs))
          have hvfew := vts_few hce
          have hefew := ents_few hce
          have hglen := goes_len s n
          refine ops_val (ex_pick_f rfl rfl) ?_
          refine ops_nil ?_
          refine nR58 ?_
          refine run_cond_false rfl ?_
          refine run_skip ?_
          refine run_seq ?_
          refine run_mixZ 9 [(true, 0), (true, 1), (true, 2), (true, 3), (true, 4), (true, 5), (true, 6), (true, 7), (false, 8), (false, 9)] H2 [0, 1] mixed (by decide) (by kernel_rfl) ?_
          rintro w3 hw3
          have H3 := Hp.drew H2; rw [← hw3] at H3
          refine mixz_p rfl ?_
          refine mix1_val (fun wz hz => ex_move rfl) ?_
          refine mixz_p rfl ?_
          refine mix1_val (fun wz hz => ex_nilCheck rfl) ?_
          refine mixz_p rfl ?_
          refine mix1_val (fun wz hz => ex_fieldAddr fl41_0 rfl) ?_
          refine mixz_p rfl ?_
          refine mix1_val (fun wz hz => ex_load ty37 rfl (hz.cell (i := 0) rfl rfl)) ?_
          refine nZ58 ?_
          refine mixz_p rfl ?_
          refine mix1_val (fun wz hz => ex_fieldAddr fl81_1 rfl) ?_
          refine mixz_p rfl ?_
          refine mix1_val (fun wz hz => ex_load ty3 rfl (hz.cell (i := 1) rfl rfl)) ?_
          refine mixz_p rfl ?_
          refine mix1_val (fun wz hz => ex_idx Tryz.underlying37 ty97 rfl rfl (len := b.groups.length) (i := n.group.toNat) (by omega) (by omega) rfl) ?_
          refine mixz_p rfl ?_
          refine mix1_val (fun wz hz => ex_loadN ty97 rfl (vs := [.int .i64 s.p.r, .int .i64 s.p.n, .slice C1 s.votes.length q1, .int .i64 s.index, .slice C2 s.image.length q2, .slice C3 s.entries.length q3]) rfl ((hrg.move (by decide) hag hz hks).1.elem hpg hp1)) ?_
          refine nZ58 ?_
          refine mixz_o rfl ?_
          refine ops_alloc ty97 H3 ?_
          intro w4 gs H4 hgs
          have hgs0 : w0.heap.size ≤ gs := by have := H3.size; omega
          refine ops_nil ?_
          refine ⟨fun hne => H4.pick [0, 1] (by decide), ?_⟩
          refine nZ58 ?_
          refine mixz_o rfl ?_
          refine ops_store ty97 H4 2 rfl rfl rfl rfl rfl (by first | decide | (simp; done) | simp [putAt]) rfl ?_
          intro w5 H5
          refine ops_nil ?_
          refine ⟨fun hne => absurd rfl hne, ?_⟩
          refine nZ58 ?_
          refine mixz_nil ?_
          refine nR58 ?_
          refine run_seq ?_
          refine run_region ?_
          refine ops_val (ex_move rfl) ?_
          refine ops_val (ex_loadN ty81 rfl (vs := [.int .i64 n.kind, .int .i64 n.group, .int .i64 n.b.r, .int .i64 n.b.n, .int .i64 n.vote.slot, .int .i64 n.vote.b.r, .int .i64 n.vote.b.n, .slice B1 n.vote.val.length j1, .int .i64 n.entry.slot, .slice B2 n.entry.val.length j2, .int .i64 n.right.g, strV n.right.key, .int .i64 n.right.lease, .int .i64 n.right.net, .int .i64 n.client, .int .i64 n.seq]) rfl (H5.cellsR (i := 1) rfl rfl)) ?_
          refine ops_call (ex_call_val gf117 rfl rfl) (vote_v gs s C1 q1 C2 q2 C3 q3 n B1 j1 B2 j2 (fun x => okn x ∧ x < w0.heap.size) _ (H5.at (i := 2) rfl) (fun x => ok x ∧ x < w0.heap.size) (fun hh => by have := hh.2; omega) (hv1.toV H5 hkB) (hv2.to H5 hkB) (hv3.toE H5 hkB) (fun hh => by have := hh.2; omega) (hbv.to H5 hkn) (rise_vt (vts_rise hce.v).2 _) (by omega) ⟨hce.i.1, hce.i.2.1⟩ hefew) ?_
          rintro _ w6 ⟨cs2, Hd, hsv⟩
          have hnp := Hp.fresh H5
          have hszp := H5.size
          have hpl := bl_place H5
          have HB := (H5.callr [2] rfl Hd).pick [0, 1, 3] (by decide)
          rw [← goes2 hk] at hsv
          obtain ⟨D1, e1, D2, e2, D3, e3, rfl, hw1, hw2, hw3⟩ := hsv
          have H6 := HB.here
          have hnk : ∀ x, up (fun x => ok x ∧ x < w0.heap.size) w5.heap.size x → x ∉ bl _ := fun x hx hb => (show False from by
            rcases hx with hx | hx
            · rcases hpl x hb with h | h
              · exact (hks x hx.1 hx.2).1 h
              · have := hx.2; omega
            · exact hnp x hx hb)
          have hkk : ∀ x, up (fun x => ok x ∧ x < w0.heap.size) w5.heap.size x → x < w6.heap.size → x ∉ bl _ ∧ up ok w0.heap.size x := fun x hx _ => ⟨hnk x hx, by
            rcases hx with hx | hx
            · exact .inl hx.1
            · exact .inr (by omega)⟩
          refine ops_nil ?_
          refine nR58 ?_
          refine run_seq ?_
          refine run_seq ?_
          refine run_region ?_
          refine ops_val (ex_loadN ty97 rfl (vs := [.int .i64 (s.goes n).p.r, .int .i64 (s.goes n).p.n, .slice D1 (s.goes n).votes.length e1, .int .i64 (s.goes n).index, .slice D2 (s.goes n).image.length e2, .slice D3 (s.goes n).entries.length e3]) rfl (H6.cellsR (i := 2) rfl rfl)) ?_
          refine ops_call (ex_call gf68 rfl) (check_p (s.goes n) D1 e1 D2 e2 D3 e3 _ _ hw1 hw2 hw3 (by omega) (by omega)) ?_
          rintro _ w7 ⟨e, rfl, hans, Hd⟩
          have H7 := H6.callN Hd
          refine ops_test (ex_neq rfl rfl) (fun hp41 => ?_) (fun hp41 => ?_)
          · skip
            refine ops_nil ?_
            refine nR58 ?_
            refine run_cond_true rfl ?_
            refine run_seq ?_
            refine run_region ?_
            refine ops_val (ex_assign rfl) ?_
            refine ops_nil ?_
            refine nR58 ?_
            refine run_ret ?_
            refine fin_ret1 rfl rfl ?_
            exact ⟨(fun b' hb' => by rw [into_no hp9 hs (by cases hc : chk (s.goes n) with | false => rfl | true => exact absurd (hans.1 hc) hp41)] at hb'; cases hb'), fun _ => ⟨rfl, (HB.all H7).noRows⟩⟩
          · have hchk : chk (s.goes n) = true := by cases hc : chk (s.goes n) with | true => rfl | false => have := hans.2 hc; omega
            refine ops_nil ?_
            refine nR58 ?_
            refine run_cond_false rfl ?_
            refine run_skip ?_
            refine run_seq ?_
            refine run_region ?_
            refine ops_val (ex_move rfl) ?_
            refine ops_val (ex_move rfl) ?_
            refine ops_val (ex_nilCheck rfl) ?_
            refine ops_val (ex_fieldAddr fl41_0 rfl) ?_
            refine nO58 ?_
            refine ops_val (ex_load ty37 rfl (H7.cell (i := 0) rfl rfl)) ?_
            refine ops_call (ex_call gf69 rfl) (cloneS (some a1) b.groups.length k1 pg.flatten _ (hrg.move (by decide) hag (HB.all H7) hks).1 (ones_flatten hong) (by rw [h8]; decide)) ?_
            rintro _ w8 ⟨gv, cv, sv, rfl, hmv, hcv, hgv0, Hc⟩
            have H8 := H7.call0 Hc
            obtain ⟨gw, rfl⟩ := own_some H8 (i := 3) rfl (by rw [List.length_append, hpg.len]; omega)
            refine ops_val (ex_nilCheck rfl) ?_
            refine ops_val (ex_fieldAddr fl41_0 rfl) ?_
            refine nO58 ?_
            refine ops_store1 ty37 H8 0 rfl rfl rfl rfl (by first | (simp; done) | simp [putAt]) rfl ?_
            intro w9 H9
            refine ops_nil ?_
            refine nR58 ?_
            refine run_seq ?_
            refine run_mixZ 8 [(true, 0), (true, 1), (true, 2), (true, 3), (true, 4), (true, 5), (true, 6), (true, 7), (false, 8)] H9 [0, 1, 2, 3] mixed (by decide) (by kernel_rfl) ?_
            rintro w10 hw10
            have H10 := Hp.drew H9; rw [← hw10] at H10
            refine mixz_p rfl ?_
            refine mix1_val (fun wz hz => ex_move rfl) ?_
            refine mixz_p rfl ?_
            refine mix1_val (fun wz hz => ex_nilCheck rfl) ?_
            refine mixz_p rfl ?_
            refine mix1_val (fun wz hz => ex_fieldAddr fl41_0 rfl) ?_
            refine mixz_p rfl ?_
            refine mix1_val (fun wz hz => ex_load ty37 rfl (hz.cell (i := 0) rfl rfl)) ?_
            refine nZ58 ?_
            refine mixz_p rfl ?_
            refine mix1_val (fun wz hz => ex_fieldAddr fl81_1 rfl) ?_
            refine mixz_p rfl ?_
            refine mix1_val (fun wz hz => ex_load ty3 rfl (hz.cell (i := 1) rfl rfl)) ?_
            refine mixz_p rfl ?_
            refine mix1_val (fun wz hz => ex_loadN ty97 rfl (vs := [.int .i64 (s.goes n).p.r, .int .i64 (s.goes n).p.n, .slice D1 (s.goes n).votes.length e1, .int .i64 (s.goes n).index, .slice D2 (s.goes n).image.length e2, .slice D3 (s.goes n).entries.length e3]) rfl (hz.cellsR (i := 2) rfl rfl)) ?_
            refine mixz_p rfl ?_
            refine mix1_val (fun wz hz => ex_idxN Tryz.underlying37 ty97 rfl rfl (len := b.groups.length) (i := n.group.toNat) (by omega) (by omega)) ?_
            refine nZ58 ?_
            refine mixz_o rfl ?_
            refine ops_store ty97 H10 3 rfl rfl rfl rfl rfl (by rw [List.length_append, hpg.len]; show 0 + n.group.toNat * 6 + 6 ≤ _; omega) rfl ?_
            intro w11 H11
            rw [store_elem (sz := 6) (vs := [.int .i64 (s.goes n).p.r, .int .i64 (s.goes n).p.n, .slice D1 (s.goes n).votes.length e1, .int .i64 (s.goes n).index, .slice D2 (s.goes n).image.length e2, .slice D3 (s.goes n).entries.length e3]) hpg (by omega) rfl] at H11
            refine ops_nil ?_
            refine ⟨fun hne => absurd rfl hne, ?_⟩
            refine nZ58 ?_
            refine mixz_nil ?_
            refine nR58 ?_
            refine run_seq ?_
            refine run_region ?_
            refine ops_val (ex_assign rfl) ?_
            refine ops_nil ?_
            refine nR58 ?_
            refine run_ret ?_
            refine fin_ret1 rfl rfl ?_
            have HW := HB.all H11
            refine ⟨fun b' hb' => ?_, fun h => by rw [into_yes hp9 (by omega) hs hchk] at h; cases h⟩
            rw [into_yes hp9 (by omega) hs hchk] at hb'
            simp only [Option.some.injEq] at hb'
            subst hb'
            refine ⟨rfl, _, HW.pick [0] (by decide), hd (some gw), cv, A2, k2, A3, k3, by rw [List.length_set]; rfl, ?_, hb2.toR HW hks, hb3.toM HW hks⟩
            exact Sl.row HW (i := 3) rfl (hpg.set_len rfl) (by decide) ((h2g.imp (R' := SvR w11 (up ok w0.heap.size)) fun p x h => h.to HW hks).set _ ⟨D1, e1, D2, e2, D3, e3, rfl, hw1.toV H11 hkk, hw2.to H11 hkk, hw3.toE H11 hkk⟩) (fun c hc => row_new (ok := ok) HW (i := 3) rfl (fun c hc => by rw [List.mem_singleton.1 hc]; exact fun e => HW.ne (i := 3) (j := 0) (g := gb) (by rw [e]; rfl) rfl (by decide) rfl) c hc)
    · obtain rfl := h3 hk
      refine ops_val (ex_assign rfl) ?_
      refine ops_nil ?_
      refine nR58 ?_
      refine run_seq ?_
      refine run_seq ?_
      refine run_region ?_
      refine ops_val (ex_move rfl) ?_
      refine ops_val (ex_eql_func Tryz.underlying136 rfl) ?_
      refine ops_val (ex_move rfl) ?_
      refine nO58 ?_
      refine ops_yes rfl ?_
      refine ops_val (ex_fieldAddr fl81_1 rfl) ?_
      refine ops_yes rfl ?_
      refine ops_val (ex_load ty3 rfl (H2.cell (i := 1) rfl rfl)) ?_
      refine nO58 ?_
      refine ops_yes rfl ?_
      refine ops_test (ex_lss rfl rfl) (fun hp21 => ?_) (fun hp21 => ?_)
      · skip
        refine ops_val (ex_pick_f rfl rfl) ?_
        refine ops_val (ex_move rfl) ?_
        refine nO58 ?_
        refine ops_no rfl ?_
        refine ops_no rfl ?_
        refine nO58 ?_
        refine ops_no rfl ?_
        refine ops_val (ex_pick_t rfl rfl) ?_
        refine ops_nil ?_
        refine nR58 ?_
        refine run_cond_true rfl ?_
        refine run_seq ?_
        refine run_region ?_
        refine ops_val (ex_assign rfl) ?_
        refine ops_nil ?_
        refine nR58 ?_
        refine run_ret ?_
        refine fin_ret1 rfl rfl ?_
        exact ⟨(fun b' hb' => by rw [into_bad hp9 (by omega)] at hb'; cases hb'), fun _ => ⟨rfl, H2.noRows⟩⟩
      · skip
        refine ops_val (ex_pick_f rfl rfl) ?_
        refine ops_val (ex_move rfl) ?_
        refine nO58 ?_
        refine ops_yes rfl ?_
        refine ops_val (ex_fieldAddr fl81_1 rfl) ?_
        refine ops_yes rfl ?_
        refine ops_val (ex_load ty3 rfl (H2.cell (i := 1) rfl rfl)) ?_
        refine nO58 ?_
        refine ops_yes rfl ?_
        refine ops_test (ex_geq rfl rfl) (fun hp26 => ?_) (fun hp26 => ?_)
        · skip
          refine ops_val (ex_pick_f rfl rfl) ?_
          refine ops_nil ?_
          refine nR58 ?_
          refine run_cond_true rfl ?_
          refine run_seq ?_
          refine run_region ?_
          refine ops_val (ex_assign rfl) ?_
          refine ops_nil ?_
          refine nR58 ?_
          refine run_ret ?_
          refine fin_ret1 rfl rfl ?_
          exact ⟨(fun b' hb' => by rw [into_bad hp9 (by omega)] at hb'; cases hb'), fun _ => ⟨rfl, H2.noRows⟩⟩
        · obtain ⟨s, hs⟩ := get_of (l := b.groups) (j := n.group.toNat) (by omega)
          have hsl := lt_of_get hs
          obtain ⟨p1, hp1, hR⟩ := h2g.get hs
          obtain ⟨C1, q1, C2, q2, C3, q3, rfl, hv1, hv2, hv3⟩ := hR
          obtain ⟨a1, ha1⟩ := hrg.some_ (by omega)
          subst ha1
          have hce := (chk_iff s).1 (hg.chk s (mem_of hs))
          have hvfew := vts_few hce
          have hefew := ents_few hce
          have hglen := goes_len s n
          refine ops_val (ex_pick_f rfl rfl) ?_
          refine ops_nil ?_
          refine nR58 ?_
          refine run_cond_false rfl ?_
          refine run_skip ?_
          refine run_seq ?_
          refine run_mixZ 9 [(true, 0), (true, 1), (true, 2), (true, 3), (true, 4), (true, 5), (true, 6), (true, 7), (false, 8), (false, 9)] H2 [0, 1] mixed (by decide) (by kernel_rfl) ?_
          rintro w3 hw3
          have H3 := Hp.drew H2; rw [← hw3] at H3
          refine mixz_p rfl ?_
          refine mix1_val (fun wz hz => ex_move rfl) ?_
          refine mixz_p rfl ?_
          refine mix1_val (fun wz hz => ex_nilCheck rfl) ?_
          refine mixz_p rfl ?_
          refine mix1_val (fun wz hz => ex_fieldAddr fl41_0 rfl) ?_
          refine mixz_p rfl ?_
          refine mix1_val (fun wz hz => ex_load ty37 rfl (hz.cell (i := 0) rfl rfl)) ?_
          refine nZ58 ?_
          refine mixz_p rfl ?_
          refine mix1_val (fun wz hz => ex_fieldAddr fl81_1 rfl) ?_
          refine mixz_p rfl ?_
          refine mix1_val (fun wz hz => ex_load ty3 rfl (hz.cell (i := 1) rfl rfl)) ?_
          refine mixz_p rfl ?_
          refine mix1_val (fun wz hz => ex_idx Tryz.underlying37 ty97 rfl rfl (len := b.groups.length) (i := n.group.toNat) (by omega) (by omega) rfl) ?_
          refine mixz_p rfl ?_
          refine mix1_val (fun wz hz => ex_loadN ty97 rfl (vs := [.int .i64 s.p.r, .int .i64 s.p.n, .slice C1 s.votes.length q1, .int .i64 s.index, .slice C2 s.image.length q2, .slice C3 s.entries.length q3]) rfl ((hrg.move (by decide) hag hz hks).1.elem hpg hp1)) ?_
          refine nZ58 ?_
          refine mixz_o rfl ?_
          refine ops_alloc ty97 H3 ?_
          intro w4 gs H4 hgs
          have hgs0 : w0.heap.size ≤ gs := by have := H3.size; omega
          refine ops_nil ?_
          refine ⟨fun hne => H4.pick [0, 1] (by decide), ?_⟩
          refine nZ58 ?_
          refine mixz_o rfl ?_
          refine ops_store ty97 H4 2 rfl rfl rfl rfl rfl (by first | decide | (simp; done) | simp [putAt]) rfl ?_
          intro w5 H5
          refine ops_nil ?_
          refine ⟨fun hne => absurd rfl hne, ?_⟩
          refine nZ58 ?_
          refine mixz_nil ?_
          refine nR58 ?_
          refine run_seq ?_
          refine run_region ?_
          refine ops_val (ex_move rfl) ?_
          refine ops_val (ex_loadN ty81 rfl (vs := [.int .i64 n.kind, .int .i64 n.group, .int .i64 n.b.r, .int .i64 n.b.n, .int .i64 n.vote.slot, .int .i64 n.vote.b.r, .int .i64 n.vote.b.n, .slice B1 n.vote.val.length j1, .int .i64 n.entry.slot, .slice B2 n.entry.val.length j2, .int .i64 n.right.g, strV n.right.key, .int .i64 n.right.lease, .int .i64 n.right.net, .int .i64 n.client, .int .i64 n.seq]) rfl (H5.cellsR (i := 1) rfl rfl)) ?_
          refine ops_call (ex_call_val gf118 rfl rfl) (entry_v gs s C1 q1 C2 q2 C3 q3 n B1 j1 B2 j2 (fun x => okn x ∧ x < w0.heap.size) _ (H5.at (i := 2) rfl) (fun x => ok x ∧ x < w0.heap.size) (fun hh => by have := hh.2; omega) (hv1.toV H5 hkB) (hv2.to H5 hkB) (hv3.toE H5 hkB) (fun hh => by have := hh.2; omega) (hbe.to H5 hkn) (by omega) ⟨hce.i.1, hce.i.2.1⟩ hefew) ?_
          rintro _ w6 ⟨cs2, Hd, hsv⟩
          have hnp := Hp.fresh H5
          have hszp := H5.size
          have hpl := bl_place H5
          have HB := (H5.callr [2] rfl Hd).pick [0, 1, 3] (by decide)
          rw [← goes3 hk] at hsv
          obtain ⟨D1, e1, D2, e2, D3, e3, rfl, hw1, hw2, hw3⟩ := hsv
          have H6 := HB.here
          have hnk : ∀ x, up (fun x => ok x ∧ x < w0.heap.size) w5.heap.size x → x ∉ bl _ := fun x hx hb => (show False from by
            rcases hx with hx | hx
            · rcases hpl x hb with h | h
              · exact (hks x hx.1 hx.2).1 h
              · have := hx.2; omega
            · exact hnp x hx hb)
          have hkk : ∀ x, up (fun x => ok x ∧ x < w0.heap.size) w5.heap.size x → x < w6.heap.size → x ∉ bl _ ∧ up ok w0.heap.size x := fun x hx _ => ⟨hnk x hx, by
            rcases hx with hx | hx
            · exact .inl hx.1
            · exact .inr (by omega)⟩
          refine ops_nil ?_
          refine nR58 ?_
          refine run_seq ?_
          refine run_seq ?_
          refine run_region ?_
          refine ops_val (ex_loadN ty97 rfl (vs := [.int .i64 (s.goes n).p.r, .int .i64 (s.goes n).p.n, .slice D1 (s.goes n).votes.length e1, .int .i64 (s.goes n).index, .slice D2 (s.goes n).image.length e2, .slice D3 (s.goes n).entries.length e3]) rfl (H6.cellsR (i := 2) rfl rfl)) ?_
          refine ops_call (ex_call gf68 rfl) (check_p (s.goes n) D1 e1 D2 e2 D3 e3 _ _ hw1 hw2 hw3 (by omega) (by omega)) ?_
          rintro _ w7 ⟨e, rfl, hans, Hd⟩
          have H7 := H6.callN Hd
          refine ops_test (ex_neq rfl rfl) (fun hp41 => ?_) (fun hp41 => ?_)
          · skip
            refine ops_nil ?_
            refine nR58 ?_
            refine run_cond_true rfl ?_
            refine run_seq ?_
            refine run_region ?_
            refine ops_val (ex_assign rfl) ?_
            refine ops_nil ?_
            refine nR58 ?_
            refine run_ret ?_
            refine fin_ret1 rfl rfl ?_
            exact ⟨(fun b' hb' => by rw [into_no hp9 hs (by cases hc : chk (s.goes n) with | false => rfl | true => exact absurd (hans.1 hc) hp41)] at hb'; cases hb'), fun _ => ⟨rfl, (HB.all H7).noRows⟩⟩
          · have hchk : chk (s.goes n) = true := by cases hc : chk (s.goes n) with | true => rfl | false => have := hans.2 hc; omega
            refine ops_nil ?_
            refine nR58 ?_
            refine run_cond_false rfl ?_
            refine run_skip ?_
            refine run_seq ?_
            refine run_region ?_
            refine ops_val (ex_move rfl) ?_
            refine ops_val (ex_move rfl) ?_
            refine ops_val (ex_nilCheck rfl) ?_
            refine ops_val (ex_fieldAddr fl41_0 rfl) ?_
            refine nO58 ?_
            refine ops_val (ex_load ty37 rfl (H7.cell (i := 0) rfl rfl)) ?_
            refine ops_call (ex_call gf69 rfl) (cloneS (some a1) b.groups.length k1 pg.flatten _ (hrg.move (by decide) hag (HB.all H7) hks).1 (ones_flatten hong) (by rw [h8]; decide)) ?_
            rintro _ w8 ⟨gv, cv, sv, rfl, hmv, hcv, hgv0, Hc⟩
            have H8 := H7.call0 Hc
            obtain ⟨gw, rfl⟩ := own_some H8 (i := 3) rfl (by rw [List.length_append, hpg.len]; omega)
            refine ops_val (ex_nilCheck rfl) ?_
            refine ops_val (ex_fieldAddr fl41_0 rfl) ?_
            refine nO58 ?_
            refine ops_store1 ty37 H8 0 rfl rfl rfl rfl (by first | (simp; done) | simp [putAt]) rfl ?_
            intro w9 H9
            refine ops_nil ?_
            refine nR58 ?_
            refine run_seq ?_
            refine run_mixZ 8 [(true, 0), (true, 1), (true, 2), (true, 3), (true, 4), (true, 5), (true, 6), (true, 7), (false, 8)] H9 [0, 1, 2, 3] mixed (by decide) (by kernel_rfl) ?_
            rintro w10 hw10
            have H10 := Hp.drew H9; rw [← hw10] at H10
            refine mixz_p rfl ?_
            refine mix1_val (fun wz hz => ex_move rfl) ?_
            refine mixz_p rfl ?_
            refine mix1_val (fun wz hz => ex_nilCheck rfl) ?_
            refine mixz_p rfl ?_
            refine mix1_val (fun wz hz => ex_fieldAddr fl41_0 rfl) ?_
            refine mixz_p rfl ?_
            refine mix1_val (fun wz hz => ex_load ty37 rfl (hz.cell (i := 0) rfl rfl)) ?_
            refine nZ58 ?_
            refine mixz_p rfl ?_
            refine mix1_val (fun wz hz => ex_fieldAddr fl81_1 rfl) ?_
            refine mixz_p rfl ?_
            refine mix1_val (fun wz hz => ex_load ty3 rfl (hz.cell (i := 1) rfl rfl)) ?_
            refine mixz_p rfl ?_
            refine mix1_val (fun wz hz => ex_loadN ty97 rfl (vs := [.int .i64 (s.goes n).p.r, .int .i64 (s.goes n).p.n, .slice D1 (s.goes n).votes.length e1, .int .i64 (s.goes n).index, .slice D2 (s.goes n).image.length e2, .slice D3 (s.goes n).entries.length e3]) rfl (hz.cellsR (i := 2) rfl rfl)) ?_
            refine mixz_p rfl ?_
            refine mix1_val (fun wz hz => ex_idxN Tryz.underlying37 ty97 rfl rfl (len := b.groups.length) (i := n.group.toNat) (by omega) (by omega)) ?_
            refine nZ58 ?_
            refine mixz_o rfl ?_
            refine ops_store ty97 H10 3 rfl rfl rfl rfl rfl (by rw [List.length_append, hpg.len]; show 0 + n.group.toNat * 6 + 6 ≤ _; omega) rfl ?_
            intro w11 H11
            rw [store_elem (sz := 6) (vs := [.int .i64 (s.goes n).p.r, .int .i64 (s.goes n).p.n, .slice D1 (s.goes n).votes.length e1, .int .i64 (s.goes n).index, .slice D2 (s.goes n).image.length e2, .slice D3 (s.goes n).entries.length e3]) hpg (by omega) rfl] at H11
            refine ops_nil ?_
            refine ⟨fun hne => absurd rfl hne, ?_⟩
            refine nZ58 ?_
            refine mixz_nil ?_
            refine nR58 ?_
            refine run_seq ?_
            refine run_region ?_
            refine ops_val (ex_assign rfl) ?_
            refine ops_nil ?_
            refine nR58 ?_
            refine run_ret ?_
            refine fin_ret1 rfl rfl ?_
            have HW := HB.all H11
            refine ⟨fun b' hb' => ?_, fun h => by rw [into_yes hp9 (by omega) hs hchk] at h; cases h⟩
            rw [into_yes hp9 (by omega) hs hchk] at hb'
            simp only [Option.some.injEq] at hb'
            subst hb'
            refine ⟨rfl, _, HW.pick [0] (by decide), hd (some gw), cv, A2, k2, A3, k3, by rw [List.length_set]; rfl, ?_, hb2.toR HW hks, hb3.toM HW hks⟩
            exact Sl.row HW (i := 3) rfl (hpg.set_len rfl) (by decide) ((h2g.imp (R' := SvR w11 (up ok w0.heap.size)) fun p x h => h.to HW hks).set _ ⟨D1, e1, D2, e2, D3, e3, rfl, hw1.toV H11 hkk, hw2.to H11 hkk, hw3.toE H11 hkk⟩) (fun c hc => row_new (ok := ok) HW (i := 3) rfl (fun c hc => by rw [List.mem_singleton.1 hc]; exact fun e => HW.ne (i := 3) (j := 0) (g := gb) (by rw [e]; rfl) rfl (by decide) rfl) c hc)
    · obtain rfl := h4 hk
      refine ops_val (ex_assign rfl) ?_
      refine ops_nil ?_
      refine nR58 ?_
      refine run_seq ?_
      refine run_seq ?_
      refine run_region ?_
      refine ops_val (ex_move rfl) ?_
      refine ops_val (ex_eql_func Tryz.underlying136 rfl) ?_
      refine ops_val (ex_move rfl) ?_
      refine nO58 ?_
      refine ops_yes rfl ?_
      refine ops_val (ex_fieldAddr fl81_1 rfl) ?_
      refine ops_yes rfl ?_
      refine ops_val (ex_load ty3 rfl (H2.cell (i := 1) rfl rfl)) ?_
      refine nO58 ?_
      refine ops_yes rfl ?_
      refine ops_test (ex_lss rfl rfl) (fun hp21 => ?_) (fun hp21 => ?_)
      · skip
        refine ops_val (ex_pick_f rfl rfl) ?_
        refine ops_val (ex_move rfl) ?_
        refine nO58 ?_
        refine ops_no rfl ?_
        refine ops_no rfl ?_
        refine nO58 ?_
        refine ops_no rfl ?_
        refine ops_val (ex_pick_t rfl rfl) ?_
        refine ops_nil ?_
        refine nR58 ?_
        refine run_cond_true rfl ?_
        refine run_seq ?_
        refine run_region ?_
        refine ops_val (ex_assign rfl) ?_
        refine ops_nil ?_
        refine nR58 ?_
        refine run_ret ?_
        refine fin_ret1 rfl rfl ?_
        exact ⟨(fun b' hb' => by rw [into_bad hp9 (by omega)] at hb'; cases hb'), fun _ => ⟨rfl, H2.noRows⟩⟩
      · skip
        refine ops_val (ex_pick_f rfl rfl) ?_
        refine ops_val (ex_move rfl) ?_
        refine nO58 ?_
        refine ops_yes rfl ?_
        refine ops_val (ex_fieldAddr fl81_1 rfl) ?_
        refine ops_yes rfl ?_
        refine ops_val (ex_load ty3 rfl (H2.cell (i := 1) rfl rfl)) ?_
        refine nO58 ?_
        refine ops_yes rfl ?_
        refine ops_test (ex_geq rfl rfl) (fun hp26 => ?_) (fun hp26 => ?_)
        · skip
          refine ops_val (ex_pick_f rfl rfl) ?_
          refine ops_nil ?_
          refine nR58 ?_
          refine run_cond_true rfl ?_
          refine run_seq ?_
          refine run_region ?_
          refine ops_val (ex_assign rfl) ?_
          refine ops_nil ?_
          refine nR58 ?_
          refine run_ret ?_
          refine fin_ret1 rfl rfl ?_
          exact ⟨(fun b' hb' => by rw [into_bad hp9 (by omega)] at hb'; cases hb'), fun _ => ⟨rfl, H2.noRows⟩⟩
        · obtain ⟨s, hs⟩ := get_of (l := b.groups) (j := n.group.toNat) (by omega)
          have hsl := lt_of_get hs
          obtain ⟨p1, hp1, hR⟩ := h2g.get hs
          obtain ⟨C1, q1, C2, q2, C3, q3, rfl, hv1, hv2, hv3⟩ := hR
          obtain ⟨a1, ha1⟩ := hrg.some_ (by omega)
          subst ha1
          have hce := (chk_iff s).1 (hg.chk s (mem_of hs))
          have hvfew := vts_few hce
          have hefew := ents_few hce
          have hglen := goes_len s n
          refine ops_val (ex_pick_f rfl rfl) ?_
          refine ops_nil ?_
          refine nR58 ?_
          refine run_cond_false rfl ?_
          refine run_skip ?_
          refine run_seq ?_
          refine run_mixZ 9 [(true, 0), (true, 1), (true, 2), (true, 3), (true, 4), (true, 5), (true, 6), (true, 7), (false, 8), (false, 9)] H2 [0, 1] mixed (by decide) (by kernel_rfl) ?_
          rintro w3 hw3
          have H3 := Hp.drew H2; rw [← hw3] at H3
          refine mixz_p rfl ?_
          refine mix1_val (fun wz hz => ex_move rfl) ?_
          refine mixz_p rfl ?_
          refine mix1_val (fun wz hz => ex_nilCheck rfl) ?_
          refine mixz_p rfl ?_
          refine mix1_val (fun wz hz => ex_fieldAddr fl41_0 rfl) ?_
          refine mixz_p rfl ?_
          refine mix1_val (fun wz hz => ex_load ty37 rfl (hz.cell (i := 0) rfl rfl)) ?_
          refine nZ58 ?_
          refine mixz_p rfl ?_
          refine mix1_val (fun wz hz => ex_fieldAddr fl81_1 rfl) ?_
          refine mixz_p rfl ?_
          refine mix1_val (fun wz hz => ex_load ty3 rfl (hz.cell (i := 1) rfl rfl)) ?_
          refine mixz_p rfl ?_
          refine mix1_val (fun wz hz => ex_idx Tryz.underlying37 ty97 rfl rfl (len := b.groups.length) (i := n.group.toNat) (by omega) (by omega) rfl) ?_
          refine mixz_p rfl ?_
          refine mix1_val (fun wz hz => ex_loadN ty97 rfl (vs := [.int .i64 s.p.r, .int .i64 s.p.n, .slice C1 s.votes.length q1, .int .i64 s.index, .slice C2 s.image.length q2, .slice C3 s.entries.length q3]) rfl ((hrg.move (by decide) hag hz hks).1.elem hpg hp1)) ?_
          refine nZ58 ?_
          refine mixz_o rfl ?_
          refine ops_alloc ty97 H3 ?_
          intro w4 gs H4 hgs
          have hgs0 : w0.heap.size ≤ gs := by have := H3.size; omega
          refine ops_nil ?_
          refine ⟨fun hne => H4.pick [0, 1] (by decide), ?_⟩
          refine nZ58 ?_
          refine mixz_o rfl ?_
          refine ops_store ty97 H4 2 rfl rfl rfl rfl rfl (by first | decide | (simp; done) | simp [putAt]) rfl ?_
          intro w5 H5
          refine ops_nil ?_
          refine ⟨fun hne => absurd rfl hne, ?_⟩
          refine nZ58 ?_
          refine mixz_nil ?_
          refine nR58 ?_
          refine run_seq ?_
          refine run_region ?_
          refine ops_val (ex_move rfl) ?_
          refine ops_val (ex_loadN ty81 rfl (vs := [.int .i64 n.kind, .int .i64 n.group, .int .i64 n.b.r, .int .i64 n.b.n, .int .i64 n.vote.slot, .int .i64 n.vote.b.r, .int .i64 n.vote.b.n, .slice B1 n.vote.val.length j1, .int .i64 n.entry.slot, .slice B2 n.entry.val.length j2, .int .i64 n.right.g, strV n.right.key, .int .i64 n.right.lease, .int .i64 n.right.net, .int .i64 n.client, .int .i64 n.seq]) rfl (H5.cellsR (i := 1) rfl rfl)) ?_
          refine ops_call (ex_call_val gf119 rfl rfl) (image_v gs s C1 q1 C2 q2 C3 q3 n B1 j1 B2 j2 (fun x => okn x ∧ x < w0.heap.size) _ (H5.at (i := 2) rfl) (fun x => ok x ∧ x < w0.heap.size) (fun hh => by have := hh.2; omega) (hv1.toV H5 hkB) (hv2.to H5 hkB) (hv3.toE H5 hkB) (fun hh => by have := hh.2; omega) (hbe.to H5 hkn) (by omega) (fun x hx => by obtain ⟨i, hi⟩ := List.getElem?_of_mem hx; exact (ents_slot hce.e i x hi).2.1) ⟨hce.i.1, hce.i.2.1⟩ hefew) ?_
          rintro _ w6 ⟨cs2, Hd, hsv⟩
          have hnp := Hp.fresh H5
          have hszp := H5.size
          have hpl := bl_place H5
          have HB := (H5.callr [2] rfl Hd).pick [0, 1, 3] (by decide)
          rw [← goes4 hk] at hsv
          obtain ⟨D1, e1, D2, e2, D3, e3, rfl, hw1, hw2, hw3⟩ := hsv
          have H6 := HB.here
          have hnk : ∀ x, up (fun x => ok x ∧ x < w0.heap.size) w5.heap.size x → x ∉ bl _ := fun x hx hb => (show False from by
            rcases hx with hx | hx
            · rcases hpl x hb with h | h
              · exact (hks x hx.1 hx.2).1 h
              · have := hx.2; omega
            · exact hnp x hx hb)
          have hkk : ∀ x, up (fun x => ok x ∧ x < w0.heap.size) w5.heap.size x → x < w6.heap.size → x ∉ bl _ ∧ up ok w0.heap.size x := fun x hx _ => ⟨hnk x hx, by
            rcases hx with hx | hx
            · exact .inl hx.1
            · exact .inr (by omega)⟩
          refine ops_nil ?_
          refine nR58 ?_
          refine run_seq ?_
          refine run_seq ?_
          refine run_region ?_
          refine ops_val (ex_loadN ty97 rfl (vs := [.int .i64 (s.goes n).p.r, .int .i64 (s.goes n).p.n, .slice D1 (s.goes n).votes.length e1, .int .i64 (s.goes n).index, .slice D2 (s.goes n).image.length e2, .slice D3 (s.goes n).entries.length e3]) rfl (H6.cellsR (i := 2) rfl rfl)) ?_
          refine ops_call (ex_call gf68 rfl) (check_p (s.goes n) D1 e1 D2 e2 D3 e3 _ _ hw1 hw2 hw3 (by omega) (by omega)) ?_
          rintro _ w7 ⟨e, rfl, hans, Hd⟩
          have H7 := H6.callN Hd
          refine ops_test (ex_neq rfl rfl) (fun hp41 => ?_) (fun hp41 => ?_)
          · skip
            refine ops_nil ?_
            refine nR58 ?_
            refine run_cond_true rfl ?_
            refine run_seq ?_
            refine run_region ?_
            refine ops_val (ex_assign rfl) ?_
            refine ops_nil ?_
            refine nR58 ?_
            refine run_ret ?_
            refine fin_ret1 rfl rfl ?_
            exact ⟨(fun b' hb' => by rw [into_no hp9 hs (by cases hc : chk (s.goes n) with | false => rfl | true => exact absurd (hans.1 hc) hp41)] at hb'; cases hb'), fun _ => ⟨rfl, (HB.all H7).noRows⟩⟩
          · have hchk : chk (s.goes n) = true := by cases hc : chk (s.goes n) with | true => rfl | false => have := hans.2 hc; omega
            refine ops_nil ?_
            refine nR58 ?_
            refine run_cond_false rfl ?_
            refine run_skip ?_
            refine run_seq ?_
            refine run_region ?_
            refine ops_val (ex_move rfl) ?_
            refine ops_val (ex_move rfl) ?_
            refine ops_val (ex_nilCheck rfl) ?_
            refine ops_val (ex_fieldAddr fl41_0 rfl) ?_
            refine nO58 ?_
            refine ops_val (ex_load ty37 rfl (H7.cell (i := 0) rfl rfl)) ?_
            refine ops_call (ex_call gf69 rfl) (cloneS (some a1) b.groups.length k1 pg.flatten _ (hrg.move (by decide) hag (HB.all H7) hks).1 (ones_flatten hong) (by rw [h8]; decide)) ?_
            rintro _ w8 ⟨gv, cv, sv, rfl, hmv, hcv, hgv0, Hc⟩
            have H8 := H7.call0 Hc
            obtain ⟨gw, rfl⟩ := own_some H8 (i := 3) rfl (by rw [List.length_append, hpg.len]; omega)
            refine ops_val (ex_nilCheck rfl) ?_
            refine ops_val (ex_fieldAddr fl41_0 rfl) ?_
            refine nO58 ?_
            refine ops_store1 ty37 H8 0 rfl rfl rfl rfl (by first | (simp; done) | simp [putAt]) rfl ?_
            intro w9 H9
            refine ops_nil ?_
            refine nR58 ?_
            refine run_seq ?_
            refine run_mixZ 8 [(true, 0), (true, 1), (true, 2), (true, 3), (true, 4), (true, 5), (true, 6), (true, 7), (false, 8)] H9 [0, 1, 2, 3] mixed (by decide) (by kernel_rfl) ?_
            rintro w10 hw10
            have H10 := Hp.drew H9; rw [← hw10] at H10
            refine mixz_p rfl ?_
            refine mix1_val (fun wz hz => ex_move rfl) ?_
            refine mixz_p rfl ?_
            refine mix1_val (fun wz hz => ex_nilCheck rfl) ?_
            refine mixz_p rfl ?_
            refine mix1_val (fun wz hz => ex_fieldAddr fl41_0 rfl) ?_
            refine mixz_p rfl ?_
            refine mix1_val (fun wz hz => ex_load ty37 rfl (hz.cell (i := 0) rfl rfl)) ?_
            refine nZ58 ?_
            refine mixz_p rfl ?_
            refine mix1_val (fun wz hz => ex_fieldAddr fl81_1 rfl) ?_
            refine mixz_p rfl ?_
            refine mix1_val (fun wz hz => ex_load ty3 rfl (hz.cell (i := 1) rfl rfl)) ?_
            refine mixz_p rfl ?_
            refine mix1_val (fun wz hz => ex_loadN ty97 rfl (vs := [.int .i64 (s.goes n).p.r, .int .i64 (s.goes n).p.n, .slice D1 (s.goes n).votes.length e1, .int .i64 (s.goes n).index, .slice D2 (s.goes n).image.length e2, .slice D3 (s.goes n).entries.length e3]) rfl (hz.cellsR (i := 2) rfl rfl)) ?_
            refine mixz_p rfl ?_
            refine mix1_val (fun wz hz => ex_idxN Tryz.underlying37 ty97 rfl rfl (len := b.groups.length) (i := n.group.toNat) (by omega) (by omega)) ?_
            refine nZ58 ?_
            refine mixz_o rfl ?_
            refine ops_store ty97 H10 3 rfl rfl rfl rfl rfl (by rw [List.length_append, hpg.len]; show 0 + n.group.toNat * 6 + 6 ≤ _; omega) rfl ?_
            intro w11 H11
            rw [store_elem (sz := 6) (vs := [.int .i64 (s.goes n).p.r, .int .i64 (s.goes n).p.n, .slice D1 (s.goes n).votes.length e1, .int .i64 (s.goes n).index, .slice D2 (s.goes n).image.length e2, .slice D3 (s.goes n).entries.length e3]) hpg (by omega) rfl] at H11
            refine ops_nil ?_
            refine ⟨fun hne => absurd rfl hne, ?_⟩
            refine nZ58 ?_
            refine mixz_nil ?_
            refine nR58 ?_
            refine run_seq ?_
            refine run_region ?_
            refine ops_val (ex_assign rfl) ?_
            refine ops_nil ?_
            refine nR58 ?_
            refine run_ret ?_
            refine fin_ret1 rfl rfl ?_
            have HW := HB.all H11
            refine ⟨fun b' hb' => ?_, fun h => by rw [into_yes hp9 (by omega) hs hchk] at h; cases h⟩
            rw [into_yes hp9 (by omega) hs hchk] at hb'
            simp only [Option.some.injEq] at hb'
            subst hb'
            refine ⟨rfl, _, HW.pick [0] (by decide), hd (some gw), cv, A2, k2, A3, k3, by rw [List.length_set]; rfl, ?_, hb2.toR HW hks, hb3.toM HW hks⟩
            exact Sl.row HW (i := 3) rfl (hpg.set_len rfl) (by decide) ((h2g.imp (R' := SvR w11 (up ok w0.heap.size)) fun p x h => h.to HW hks).set _ ⟨D1, e1, D2, e2, D3, e3, rfl, hw1.toV H11 hkk, hw2.to H11 hkk, hw3.toE H11 hkk⟩) (fun c hc => row_new (ok := ok) HW (i := 3) rfl (fun c hc => by rw [List.mem_singleton.1 hc]; exact fun e => HW.ne (i := 3) (j := 0) (g := gb) (by rw [e]; rfl) rfl (by decide) rfl) c hc)
end Go.Proofs.YtjoeklkmnfaabaaGreat
/- Walks of layer 2, printed by wip/gen/codec.py. -/
namespace Go.Proofs.YtjoeklkmnfaabaaGreat
open Go Go.RowKit
set_option linter.unusedVariables false
attribute [local irreducible] Still Ops Does Cd
theorem none_saved {w : World} {ok : Nat → Prop} : SvR w ok [.int .i64 0, .int .i64 0, .slice none 0 0, .int .i64 0, .slice none 0 0, .slice none 0 0] Sv.none := ⟨none, 0, none, 0, none, 0, rfl, Sl.none _ _ _ _, Bs.none _ _, Sl.none _ _ _ _⟩
set_option maxRecDepth 100000 in
set_option maxHeartbeats 4000000 in
theorem empty_v (w0 : World) :
    Does Tryz.prog 29 #[] w0 (fun r w' => ∃ cs, r = .agg cs.toArray ∧ BoR w' (fun x => w0.heap.size ≤ x) cs Bo.empty ∧ Hp w0 w' [] []) := by
  refine does_of Tryz.func29 Tryz.ntmps29 rfl ?_
  change Run _ _ _ _ [undef, undef, undef] _
  have H := Hp.refl w0
  refine run_seq ?_
  refine run_region ?_
  refine ops_alloc ty41 H ?_
  intro w1 g1 H1 hg1
  refine ops_nil ?_
  change Run _ _ _ _ [_, _, _] _
  refine run_seq ?_
  refine run_region ?_
  refine ops_makeN Tryz.underlying37 ty97 H1 (n := 8) (c := 8) rfl rfl (Nat.le_refl _) (by decide) (by decide) ?_
  intro w2 ge H2 _
  refine ops_val (ex_build ty41 pl41 rfl rfl) ?_
  refine ops_store ty41 H2 0 (vs := [.slice (hd (some ge)) 8 8, .slice none 0 0, .slice none 0 0]) rfl rfl rfl rfl rfl (Nat.le_refl 3) rfl ?_
  intro w3 H3
  refine ops_nil ?_
  change Run _ _ _ _ [_, _, _] _
  refine run_ret ?_
  refine fin_cell rfl ty41 (cs := [.slice (hd (some ge)) 8 8, .slice none 0 0, .slice none 0 0]) rfl rfl (H3.cellsR (i := 0) rfl rfl) ?_
  have HZ : Hp w0 w3 [] [((some g1, 41, [.slice (hd (some ge)) 8 8, .slice none 0 0, .slice none 0 0]) : Ent), ((some ge, 97, (List.replicate 8 [.int .i64 0, .int .i64 0, .slice none 0 0, .int .i64 0, .slice none 0 0, .slice none 0 0]).flatten ++ []) : Ent)] := by rw [List.append_nil]; exact H3
  refine ⟨_, rfl, ⟨hd (some ge), 8, none, 0, none, 0, rfl, Sl.row HZ (i := 1) rfl (fun p hp => by rw [(List.mem_replicate.1 hp).2]; rfl) (by decide) ?_ (fun b hb => ?_), Sl.none _ _ _ _, Sl.none _ _ _ _⟩, H3.noRows⟩
  · exact ⟨none_saved, none_saved, none_saved, none_saved, none_saved, none_saved, none_saved, none_saved, trivial⟩
  · rcases HZ.place (i := 1) (g := b) (by cases hb; rfl) with h | h
    · cases h
    · exact h
set_option maxRecDepth 100000 in
set_option maxHeartbeats 4000000 in
theorem empty_r (w0 : World) :
    Does Tryz.prog 15 #[] w0 (fun r w' => ∃ cs, r = .agg cs.toArray ∧ BoR w' (fun x => w0.heap.size ≤ x) cs Bo.empty ∧ Hp w0 w' [] []) := by
  refine does_of Tryz.func15 Tryz.ntmps15 rfl ?_
  change Run _ _ _ _ [undef, undef, undef] _
  have H := Hp.refl w0
  refine run_seq ?_
  refine run_region ?_
  refine ops_alloc ty41 H ?_
  intro w1 g1 H1 hg1
  refine ops_nil ?_
  change Run _ _ _ _ [_, _, _] _
  refine run_seq ?_
  refine run_region ?_
  refine ops_makeN Tryz.underlying37 ty97 H1 (n := 8) (c := 8) rfl rfl (Nat.le_refl _) (by decide) (by decide) ?_
  intro w2 ge H2 _
  refine ops_val (ex_build ty41 pl41 rfl rfl) ?_
  refine ops_store ty41 H2 0 (vs := [.slice (hd (some ge)) 8 8, .slice none 0 0, .slice none 0 0]) rfl rfl rfl rfl rfl (Nat.le_refl 3) rfl ?_
  intro w3 H3
  refine ops_nil ?_
  change Run _ _ _ _ [_, _, _] _
  refine run_ret ?_
  refine fin_cell rfl ty41 (cs := [.slice (hd (some ge)) 8 8, .slice none 0 0, .slice none 0 0]) rfl rfl (H3.cellsR (i := 0) rfl rfl) ?_
  have HZ : Hp w0 w3 [] [((some g1, 41, [.slice (hd (some ge)) 8 8, .slice none 0 0, .slice none 0 0]) : Ent), ((some ge, 97, (List.replicate 8 [.int .i64 0, .int .i64 0, .slice none 0 0, .int .i64 0, .slice none 0 0, .slice none 0 0]).flatten ++ []) : Ent)] := by rw [List.append_nil]; exact H3
  refine ⟨_, rfl, ⟨hd (some ge), 8, none, 0, none, 0, rfl, Sl.row HZ (i := 1) rfl (fun p hp => by rw [(List.mem_replicate.1 hp).2]; rfl) (by decide) ?_ (fun b hb => ?_), Sl.none _ _ _ _, Sl.none _ _ _ _⟩, H3.noRows⟩
  · exact ⟨none_saved, none_saved, none_saved, none_saved, none_saved, none_saved, none_saved, none_saved, trivial⟩
  · rcases HZ.place (i := 1) (g := b) (by cases hb; rfl) with h | h
    · cases h
    · exact h
set_option maxRecDepth 100000 in
set_option maxHeartbeats 16000000 in
theorem replay_v (A : Option Addr) (k : Nat) (l : List Nt) (okl : Nat → Prop) (w0 : World) (hl : Sl (NtR w0 okl) 16 w0 okl A l) (hn : l.length ≤ 840000000000) :
    Does Tryz.prog 33 #[.slice A l.length k] w0 (fun r w' => ∃ cs e b, r = .tuple #[.agg cs.toArray, .int .i64 e] ∧ BoR w' (fun x => w0.heap.size ≤ x) cs b ∧ Rep l b e ∧ Hp w0 w' [] []) := by
  refine does_of Tryz.func33 Tryz.ntmps33 rfl ?_
  refine nR20 ?_
  have H := Hp.refl w0
  obtain ⟨ps, hp, hr, ha, h2⟩ := id hl
  have hlen := h2.len
  refine run_seq ?_
  refine run_region ?_
  refine ops_alloc ty41 H ?_
  intro w1 gr H1 hgr
  refine ops_val (ex_assign rfl) ?_
  refine ops_nil ?_
  refine nR20 ?_
  refine run_seq ?_
  refine run_region ?_
  have hnbr := Hp.fresh H1
  have hszr := H1.size
  refine ops_call (ex_call gf29 rfl) (empty_v _) ?_
  rintro _ w2 ⟨cse, rfl, hbe, Hd⟩
  have H2 := H1.callN Hd
  have hcl : ∃ a b c d e f, cse = [.slice a 8 b, .slice c 0 d, .slice e 0 f] := by
    obtain ⟨_, _, _, _, _, _, rfl, _⟩ := hbe
    exact ⟨_, _, _, _, _, _, rfl⟩
  obtain ⟨z1, y1, z2, y2, z3, y3, rfl⟩ := hcl
  have HB0 := H2
  have HL0 := HB0.here
  refine ops_alloc ty41 HL0 ?_
  intro w3 gb H3 hgb
  refine ops_store ty41 H3 1 rfl rfl rfl rfl rfl (by first | decide | (simp; done) | simp [putAt]) rfl ?_
  intro w4 H4
  refine ops_nil ?_
  refine nR20 ?_
  refine run_seq ?_
  refine run_seq ?_
  refine run_region ?_
  refine ops_val (ex_move rfl) ?_
  refine ops_val (ex_len_slice Tryz.underlying22 rfl) ?_
  refine ops_val (ex_move rfl) ?_
  refine ops_nil ?_
  refine nR20 ?_
  refine run_block ?_
  refine run_loop (fun nQ lQ w => ∃ (i : Nat) (y : Int) (b : Bo) (cs : List Value), l.length - i = nQ ∧ Fits [none, none, some (.pointer (some ⟨gr, 0, none⟩)), none, some (.pointer (some ⟨gb, 0, none⟩)), none, none, none, some (.slice A l.length k), some (.int .i64 (l.length : Int)), some (.int .i64 y), none, none, none, none, none, none, none, none, none] lQ ∧ y = (i : Int) ∧ i ≤ l.length ∧ repl Bo.empty (l.take i) = some b ∧ Good b i ∧ BoR w (fun x => w0.heap.size ≤ x ∧ x ≠ gr ∧ x ≠ gb) cs b ∧ Hp w0 w [] [((some gr, 41, [.slice none 0 0, .slice none 0 0, .slice none 0 0]) : Ent), (some gb, 41, cs)]) (l.length) ?_ ?_
  · exact ⟨0, _, Bo.empty, _, rfl, (fn (fn (fs (fn (fs (fn (fn (fn (fs (fs (fs (fn (fn (fn (fn (fn (fn (fn (fn (fn f0)))))))))))))))))))), rfl, Nat.zero_le _, rfl, Good.empty, hbe.to H4 (fun x hx hl => ⟨hnbr x hx, by omega, fun e => by subst e; have h1 := H4.lt (i := 0) rfl; have h2 := hnbr _ hx; exact h2 (by simp [bl]), by omega⟩), (HB0.all H4).pick [0, 1] (by decide)⟩
  · rintro nQ lQ w5 ⟨i, y, b, cs, rfl, hfit, rfl, hi, hrep, hgood, hbor, H5⟩
    obtain ⟨j, rfl⟩ := hfit.open
    refine nR20 ?_
    clear hfit
    have HB := H5
    replace H5 := HB.here
    obtain ⟨X1, x1, X2, x2, X3, x3, rfl, hx1, hx2, hx3⟩ := hbor
    refine run_seq ?_
    refine run_region ?_
    refine ops_test (ex_lss rfl rfl) (fun hp11 => ?_) (fun hp11 => ?_)
    · have hil : i < l.length := by omega
      obtain ⟨nt, hx⟩ := get_of hil
      obtain ⟨p1, hp1, hR⟩ := h2.get hx
      obtain ⟨B1, j1, B2, j2, rfl, hbv, hbe2⟩ := hR
      obtain ⟨a1, ha1⟩ := hr.some_ (by omega)
      subst ha1
      refine ops_nil ?_
      refine nR20 ?_
      refine run_seq ?_
      refine run_cond_true rfl ?_
      refine run_skip ?_
      refine run_seq ?_
      refine run_block ?_
      refine run_seq ?_
      refine run_region ?_
      refine ops_val (ex_idx Tryz.underlying22 ty81 rfl rfl rfl hil rfl) ?_
      refine ops_val (ex_loadN ty81 rfl (vs := [.int .i64 nt.kind, .int .i64 nt.group, .int .i64 nt.b.r, .int .i64 nt.b.n, .int .i64 nt.vote.slot, .int .i64 nt.vote.b.r, .int .i64 nt.vote.b.n, .slice B1 nt.vote.val.length j1, .int .i64 nt.entry.slot, .slice B2 nt.entry.val.length j2, .int .i64 nt.right.g, strV nt.right.key, .int .i64 nt.right.lease, .int .i64 nt.right.net, .int .i64 nt.client, .int .i64 nt.seq]) rfl ((hr.to0 (HB.all H5)).elem hp hp1)) ?_
      refine ops_alloc ty81 H5 ?_
      intro w6 g6 H6 hg6
      refine ops_store ty81 H6 2 rfl rfl rfl rfl rfl (by first | decide | (simp; done) | simp [putAt]) rfl ?_
      intro w7 H7
      refine ops_nil ?_
      refine nR20 ?_
      refine run_seq ?_
      refine run_region ?_
      refine ops_val (ex_loadN ty81 rfl (vs := [.int .i64 nt.kind, .int .i64 nt.group, .int .i64 nt.b.r, .int .i64 nt.b.n, .int .i64 nt.vote.slot, .int .i64 nt.vote.b.r, .int .i64 nt.vote.b.n, .slice B1 nt.vote.val.length j1, .int .i64 nt.entry.slot, .slice B2 nt.entry.val.length j2, .int .i64 nt.right.g, strV nt.right.key, .int .i64 nt.right.lease, .int .i64 nt.right.net, .int .i64 nt.client, .int .i64 nt.seq]) rfl (H7.cellsR (i := 2) rfl rfl)) ?_
      have HP := H7
      have hkb : ∀ x, (fun x => w0.heap.size ≤ x ∧ x ≠ gr ∧ x ≠ gb) x → x ∉ bl [((some gr, 0, []) : Ent), (some gb, 0, [])] ∧ (fun x => w0.heap.size ≤ x ∧ x ≠ gr ∧ x ≠ gb) x := fun x hx => ⟨fun hb => by
        have : x = gr ∨ x = gb := by simpa [bl] using hb
        rcases this with h | h
        · exact hx.2.1 h
        · exact hx.2.2 h, hx⟩
      have hkl : ∀ x, okl x → x < w0.heap.size → x ∉ ([] : List Nat) ∧ (okl x ∧ x < w0.heap.size) := fun x hx hl => ⟨by simp, hx, hl⟩
      have hgr0 := HB.place (i := 0) rfl
      have hgb0 := HB.place (i := 1) rfl
      have hnp := Hp.fresh H7
      have hszp := (HB.all H7).size
      refine ops_call (ex_call gf32 rfl) (goes_v gb b X1 x1 X2 x2 X3 x3 nt B1 j1 B2 j2 (fun x => okl x ∧ x < w0.heap.size) i _ (H7.at (i := 1) rfl) (fun x => w0.heap.size ≤ x ∧ x ≠ gr ∧ x ≠ gb) (fun hh => hh.2.2 rfl) (hx1.toS H7 fun x hx _ => hkb x hx) (hx2.toR H7 fun x hx _ => hkb x hx) (hx3.toM H7 fun x hx _ => hkb x hx) (fun hh => by rcases hgb0 with h | h; cases h; have := hh.2; omega) (hbv.to (HB.all H7) hkl) (hbe2.to (HB.all H7) hkl) hgood (by omega)) ?_
      rintro r w8 ⟨hyes, hno⟩
      have htk := repl_take hrep hx
      cases hin : b.into nt
      · obtain ⟨rfl, Hd⟩ := hno hin
        have HN9 := (HP.callr [1] rfl Hd).pick [0] (by decide)
        refine ops_val (ex_not rfl) ?_
        refine ops_nil ?_
        refine nR20 ?_
        refine run_cond_true rfl ?_
        refine run_seq ?_
        refine run_region ?_
        refine ops_val (ex_build ty41 pl41 rfl rfl) ?_
        refine ops_store ty41 HN9 0 rfl rfl rfl rfl rfl (by decide) rfl ?_
        intro w9 H9
        refine ops_val (ex_assign rfl) ?_
        refine ops_nil ?_
        refine nR20 ?_
        refine run_ret ?_
        refine blk_ret ?_
        refine rnd_ret ?_
        refine blk_ret ?_
        refine fin_cell_tmp rfl ty41 (cs := [.slice none 0 0, .slice none 0 0, .slice none 0 0]) rfl rfl rfl (H9.cellsR (i := 0) rfl rfl) ?_
        exact ⟨_, _, Bo.zero, rfl, BoR.zero _ _, .inr ⟨repl_none (htk.trans hin), rfl, rfl⟩, (HB.all H9).noRows⟩
      · obtain ⟨rfl, cs', Hd, hB'⟩ := hyes _ hin
        have HN9 := (HP.callr [1] rfl Hd).pick [0, 3] (by decide)
        refine ops_val (ex_not rfl) ?_
        refine ops_nil ?_
        refine nR20 ?_
        refine run_cond_false rfl ?_
        refine run_skip ?_
        refine run_nil (blk_normal ?_)
        refine run_region ?_
        refine ops_val (ex_add rfl rfl (IntWalk.i64_in _ (by omega))) ?_
        refine ops_val (ex_move rfl) ?_
        refine ops_nil ?_
        refine nR20 ?_
        refine run_nil (rnd_normal ?_)
        refine ⟨l.length - (i + 1), by omega, i + 1, _, _, cs', rfl, (fn (fn (fs (fn (fs (fn (fn (fn (fs (fs (fs (fn (fn (fn (fn (fn (fn (fn (fn (fn f0)))))))))))))))))))), by omega, by omega, htk.trans hin, hgood.into hin, hB'.to (Hp.refl _) (fun x hx hl => ⟨by simp, ?_⟩), (HB.all HN9).pick [0, 1] (by decide)⟩
        rcases hx with hx | hx
        · exact hx
        · exact ⟨by omega, fun e => by subst e; have := HP.lt (i := 0) rfl; omega, fun e => by subst e; have := HP.lt (i := 1) rfl; omega⟩
    · obtain rfl : i = l.length := by omega
      refine ops_nil ?_
      refine nR20 ?_
      refine run_seq ?_
      refine run_cond_false rfl ?_
      refine run_exit ?_
      refine rnd_exit ?_
      refine blk_exit ?_
      refine run_seq ?_
      refine run_region ?_
      refine ops_val (ex_loadN ty41 rfl (vs := [.slice X1 b.groups.length x1, .slice X2 b.rights.length x2, .slice X3 b.last.length x3]) rfl (H5.cellsR (i := 1) rfl rfl)) ?_
      refine ops_store ty41 H5 0 rfl rfl rfl rfl rfl (Nat.le_refl 3) rfl ?_
      intro w6 H6
      refine ops_val (ex_assign rfl) ?_
      refine ops_nil ?_
      refine nR20 ?_
      refine run_ret ?_
      refine fin_cell_tmp rfl ty41 (cs := [.slice X1 b.groups.length x1, .slice X2 b.rights.length x2, .slice X3 b.last.length x3]) rfl rfl rfl (H6.cellsR (i := 0) rfl rfl) ?_
      rw [List.take_length] at hrep
      refine ⟨_, _, b, rfl, BoR.to (ok := (fun x => w0.heap.size ≤ x ∧ x ≠ gr ∧ x ≠ gb)) ⟨X1, x1, X2, x2, X3, x3, rfl, hx1, hx2, hx3⟩ H6 (fun x hx hl => ⟨fun hb => ?_, hx.1⟩), .inl ⟨hrep, rfl, hgood⟩, (HB.all H6).noRows⟩
      have : x = gr ∨ x = gb := by simpa [bl] using hb
      rcases this with h | h
      · exact hx.2.1 h
      · exact hx.2.2 h
end Go.Proofs.YtjoeklkmnfaabaaGreat
/-
  Fields of what an unknown address points to; the law's first line.
-/
namespace Go.Proofs.YtjoeklkmnfaabaaGreat
open Go Go.RowKit

section
variable {P : Program} {l : List Value} {w : World} {ty t : TypeId} {x : Operand}
theorem ex_fieldAddrA {f off : Nat} {ft : TypeId} (h : fieldOf P t f = some (off, ft)) {a : Addr} (hx : ev l x = some (.pointer (some a))) : Ex P l (.fieldAddr t x f) ty w (.value (.pointer (some (a.add off)))) w := fun _ _ _ _ => by
  unfold fieldOf at h
  split at h
  · rename_i fs hu
    split at h
    · rename_i fd hfd
      split at h
      · rename_i i hi
        split at h
        · cases h
        · rename_i hsz
          simp only [Option.some.injEq, Prod.mk.injEq] at h
          obtain ⟨rfl, rfl⟩ := h
          simp [execOp, rho_of hx, Instr.fieldAt, run_underlying hu, hfd, Instr.sureAddr, fieldPlace, sizeOf, typeInfo, hi, hsz]
      · cases h
    · cases h
  · cases h
theorem ex_fieldAddrB {f off k : Nat} {ft : TypeId} (h : fieldOf P t f = some (off, ft)) {a : Addr} (hx : ev l x = some (.pointer (some (a.add k)))) : Ex P l (.fieldAddr t x f) ty w (.value (.pointer (some (a.add (k + off))))) w := by
  have := ex_fieldAddrA (ty := ty) (w := w) h hx
  rwa [add_add] at this
end
def awN : Nt := ⟨1, 1, ⟨2, 1⟩, ⟨0, ⟨0, 0⟩, []⟩, ⟨0, []⟩, ⟨0, [], 0, 0⟩, 0, 0⟩
def awS : Sv := ⟨⟨2, 1⟩, [], 0, [], []⟩
def awB : Bo := { Bo.empty with groups := Bo.empty.groups.set 1 awS }
theorem awB_eq : repl Bo.empty [awN] = some awB := by
  have h1 : Sv.none.goes awN = awS := rfl
  have h2 : chk awS = true := rfl
  have h3 : Bo.empty.into awN = some awB := by
    unfold Bo.into
    rw [if_neg (by decide), if_neg (by decide)]
    show (match some Sv.none with | some s => if chk (s.goes awN) = true then some { Bo.empty with groups := Bo.empty.groups.set 1 (s.goes awN) } else none | none => none) = _
    simp only [h1, h2, if_true]
    rfl
  unfold repl
  rw [h3]
  rfl
end Go.Proofs.YtjoeklkmnfaabaaGreat
/- Walks of layer 2, printed by wip/gen/codec.py. -/
namespace Go.Proofs.YtjoeklkmnfaabaaGreat
open Go Go.RowKit
set_option linter.unusedVariables false
attribute [local irreducible] Still Ops Does Cd
set_option maxRecDepth 100000 in
set_option maxHeartbeats 4000000 in
theorem awake_v (w0 : World) :
    Does Tryz.prog 10 #[] w0 (fun r w' => r = .bool (decide (True)) ∧ Hp w0 w' [] []) := by
  refine does_of Tryz.func10 Tryz.ntmps10 rfl ?_
  refine nR27 ?_
  have H := Hp.refl w0
  refine run_seq ?_
  refine run_region ?_
  refine ops_val (ex_assign rfl) ?_
  refine ops_nil ?_
  refine nR27 ?_
  refine run_seq ?_
  refine run_region ?_
  refine ops_val (ex_build ty75 pl75 rfl rfl) ?_
  refine ops_val (ex_build ty81 pl81 rfl rfl) ?_
  refine ops_buildSlice Tryz.underlying22 ty81 H (cs := [.int .i64 1, .int .i64 1, .int .i64 2, .int .i64 1, .int .i64 0, .int .i64 0, .int .i64 0, .slice none 0 0, .int .i64 0, .slice none 0 0, .int .i64 0, .string ⟨#[]⟩, .int .i64 0, .int .i64 0, .int .i64 0, .int .i64 0]) rfl (by decide) rfl ?_
  intro w1 g1 H1 hg1
  have hl := Sl.row (R := NtR w1 (fun _ => True)) (xs := [awN]) (ok := fun _ => True) H1 (i := 0) (sp := []) (ps := [[.int .i64 1, .int .i64 1, .int .i64 2, .int .i64 1, .int .i64 0, .int .i64 0, .int .i64 0, .slice none 0 0, .int .i64 0, .slice none 0 0, .int .i64 0, .string ⟨#[]⟩, .int .i64 0, .int .i64 0, .int .i64 0, .int .i64 0]]) rfl (Pl.one rfl) (by decide) (All2.one ⟨none, 0, none, 0, rfl, Bs.none _ _, Bs.none _ _⟩) (fun _ _ => trivial)
  refine ops_call (ex_call gf33 rfl) (replay_v _ 1 [awN] _ _ hl (by decide)) ?_
  rintro _ w2 ⟨cs, e, b9, rfl, hbo, hrep, Hd⟩
  obtain ⟨hb9, rfl⟩ : b9 = awB ∧ e = 0 := by
    rcases hrep with ⟨h1, h2, _⟩ | ⟨h1, _⟩
    · rw [awB_eq] at h1; cases h1; exact ⟨rfl, h2⟩
    · rw [awB_eq] at h1; cases h1
  subst hb9
  obtain ⟨A1, k1, A2, k2, A3, k3, rfl, hv1, hv2, hv3⟩ := hbo
  have H2 := H1.callN Hd
  obtain ⟨ps, hp, hr, ha, h2⟩ := id hv1
  obtain ⟨a1, ha1⟩ := hr.some_ (by decide)
  subst ha1
  obtain ⟨p1, hp1, hR⟩ := h2.get (i := 1) (b := awS) rfl
  obtain ⟨C1, q1, C2, q2, C3, q3, rfl, _, _, _⟩ := hR
  have HR := H2.noRows
  replace H2 := HR.here
  refine nO27 ?_
  refine ops_val (ex_move rfl) ?_
  refine ops_val (ex_extract rfl rfl) ?_
  refine ops_val (ex_extract rfl rfl) ?_
  refine ops_alloc ty41 H2 ?_
  intro w3 g3 H3 hg3
  refine nO27 ?_
  refine ops_store ty41 H3 0 rfl rfl rfl rfl rfl (by first | decide | (simp; done) | simp [putAt]) rfl ?_
  intro w4 H4
  refine ops_val (ex_assign rfl) ?_
  refine ops_nil ?_
  refine nR27 ?_
  refine run_seq ?_
  refine run_region ?_
  refine ops_val (ex_move rfl) ?_
  refine ops_true (ex_eql rfl rfl) (rfl) ?_
  refine ops_val (ex_move rfl) ?_
  refine nO27 ?_
  refine ops_yes rfl ?_
  refine ops_val (ex_fieldAddr fl41_0 rfl) ?_
  refine ops_yes rfl ?_
  refine ops_val (ex_load ty37 rfl (H4.cell (i := 0) rfl rfl)) ?_
  refine nO27 ?_
  refine ops_yes rfl ?_
  refine ops_val (ex_len_slice Tryz.underlying37 rfl) ?_
  refine ops_yes rfl ?_
  refine ops_true (ex_eql rfl rfl) (rfl) ?_
  refine ops_val (ex_pick_t rfl rfl) ?_
  refine ops_val (ex_move rfl) ?_
  refine nO27 ?_
  refine ops_yes rfl ?_
  refine ops_val (ex_fieldAddr fl41_0 rfl) ?_
  refine ops_yes rfl ?_
  refine ops_val (ex_load ty37 rfl (H4.cell (i := 0) rfl rfl)) ?_
  refine nO27 ?_
  refine ops_yes rfl ?_
  refine ops_val (ex_idx Tryz.underlying37 ty97 rfl rfl (len := 8) (i := 1) rfl (by decide) rfl) ?_
  refine ops_yes rfl ?_
  refine ops_val (ex_fieldAddrA fl97_0 rfl) ?_
  refine nO27 ?_
  refine ops_yes rfl ?_
  refine ops_val (ex_fieldAddrB fl75_0 rfl) ?_
  refine ops_yes rfl ?_
  refine ops_val (ex_load ty3 rfl (((hr.to0 H4).elem hp hp1) 0 _ rfl)) ?_
  refine nO27 ?_
  refine ops_yes rfl ?_
  refine ops_true (ex_eql rfl rfl) (rfl) ?_
  refine ops_val (ex_pick_t rfl rfl) ?_
  refine ops_val (ex_assign rfl) ?_
  refine ops_nil ?_
  refine nR27 ?_
  refine run_ret ?_
  refine fin_ret1 rfl rfl ?_
  exact ⟨bt trivial, (HR.all H4).noRows⟩
end Go.Proofs.YtjoeklkmnfaabaaGreat
/- Walks of layer 2, printed by wip/gen/codec.py. -/
namespace Go.Proofs.YtjoeklkmnfaabaaGreat
open Go Go.RowKit
set_option linter.unusedVariables false
attribute [local irreducible] Still Ops Does Cd
set_option maxRecDepth 100000 in
set_option maxHeartbeats 4000000 in
theorem vopen_nil (w0 : World) :
    Does Tryz.prog 7 #[.pointer none] w0 (fun r w' => r = .tuple #[.pointer none, .int .i64 2] ∧ Hp w0 w' [] []) := by
  refine does_of Tryz.func7 Tryz.ntmps7 rfl ?_
  refine nR43 ?_
  have H := Hp.refl w0
  refine run_seq ?_
  refine run_region ?_
  refine ops_alloc ty23 H ?_
  intro w1 g2 H1 _
  refine ops_alloc ty24 H1 ?_
  intro w2 g3 H2 _
  refine ops_nil ?_
  refine nR43 ?_
  refine run_seq ?_
  refine run_region ?_
  refine ops_val (ex_move rfl) ?_
  refine ops_call (ex_call gf28 rfl) ((Rn.open_nil _).d (fun _ _ h => h)) ?_
  rintro _ w3 ⟨rfl, Hd⟩
  have H3 := H2.callN Hd
  refine ops_val (ex_move rfl) ?_
  refine ops_val (ex_extract rfl rfl) ?_
  refine nO43 ?_
  refine ops_val (ex_extract rfl rfl) ?_
  refine ops_val (ex_assign rfl) ?_
  refine ops_val (ex_assign rfl) ?_
  refine ops_nil ?_
  refine nR43 ?_
  refine run_seq ?_
  refine run_seq ?_
  refine run_region ?_
  refine ops_val (ex_move rfl) ?_
  refine ops_true (ex_neq rfl rfl) (by decide) ?_
  refine ops_nil ?_
  refine nR43 ?_
  refine run_cond_true rfl ?_
  refine run_seq ?_
  refine run_region ?_
  refine ops_val (ex_move rfl) ?_
  refine ops_store1 ty23 H3 0 rfl rfl rfl rfl (by first | decide | (simp; done) | simp [putAt]) rfl ?_
  intro w4 H4
  refine ops_store1 ty24 H4 1 rfl rfl rfl rfl (by first | decide | (simp; done) | simp [putAt]) rfl ?_
  intro w5 H5
  refine ops_nil ?_
  refine nR43 ?_
  refine run_ret ?_
  refine ⟨_, results_cell2 rfl ty23 ty24 rfl rfl (H5.cell (i := 0) rfl rfl) (H5.cell (i := 1) rfl rfl), ?_⟩
  exact ⟨rfl, H5.noRows⟩
set_option maxRecDepth 100000 in
set_option maxHeartbeats 4000000 in
theorem vopen_down (gd gk : Nat) (gw : Option Nat) (cw : Nat) (sp : List Value) (D : Dk) (w0 : World) (H0 : Hp w0 w0 (bl (dRows gd gk gw cw sp D)) (dRows gd gk gw cw sp D)) (hdn : D.down = true) :
    Does Tryz.prog 7 #[.pointer (some ⟨gd, 0, none⟩)] w0 (fun r w' => r = .tuple #[.pointer none, .int .i64 40] ∧ Hp w0 w' (bl (dRows gd gk gw cw sp D)) (dRows gd gk gw cw sp D)) := by
  refine does_of Tryz.func7 Tryz.ntmps7 rfl ?_
  refine nR43 ?_
  have H := H0
  refine run_seq ?_
  refine run_region ?_
  refine ops_alloc ty23 H ?_
  intro w1 g2 H1 _
  refine ops_alloc ty24 H1 ?_
  intro w2 g3 H2 _
  refine ops_nil ?_
  refine nR43 ?_
  refine run_seq ?_
  refine run_region ?_
  refine ops_val (ex_move rfl) ?_
  refine ops_call (ex_call gf28 rfl) ((Rn.open_down gd gk gw cw sp D _ (H2.pick [0, 1, 2] (by decide)).here hdn).d (fun _ _ h => h)) ?_
  rintro _ w3 ⟨rfl, Hd⟩
  have H3 := (H2.callr [0, 1, 2] rfl Hd).pick [5, 6, 7, 3, 4] (by decide)
  refine ops_val (ex_move rfl) ?_
  refine ops_val (ex_extract rfl rfl) ?_
  refine nO43 ?_
  refine ops_val (ex_extract rfl rfl) ?_
  refine ops_val (ex_assign rfl) ?_
  refine ops_val (ex_assign rfl) ?_
  refine ops_nil ?_
  refine nR43 ?_
  refine run_seq ?_
  refine run_seq ?_
  refine run_region ?_
  refine ops_val (ex_move rfl) ?_
  refine ops_true (ex_neq rfl rfl) (by decide) ?_
  refine ops_nil ?_
  refine nR43 ?_
  refine run_cond_true rfl ?_
  refine run_seq ?_
  refine run_region ?_
  refine ops_val (ex_move rfl) ?_
  refine ops_store1 ty23 H3 3 rfl rfl rfl rfl (by first | decide | (simp; done) | simp [putAt]) rfl ?_
  intro w4 H4
  refine ops_store1 ty24 H4 4 rfl rfl rfl rfl (by first | decide | (simp; done) | simp [putAt]) rfl ?_
  intro w5 H5
  refine ops_nil ?_
  refine nR43 ?_
  refine run_ret ?_
  refine ⟨_, results_cell2 rfl ty23 ty24 rfl rfl (H5.cell (i := 3) rfl rfl) (H5.cell (i := 4) rfl rfl), ?_⟩
  exact ⟨rfl, H5.pick [0, 1, 2] (by decide)⟩
set_option maxRecDepth 100000 in
set_option maxHeartbeats 4000000 in
theorem save_nil (A : Option Addr) (n c : Nat) (w0 : World) :
    Does Tryz.prog 11 #[.pointer none, .slice A n c] w0 (fun r w' => r = .int .i64 2 ∧ Hp w0 w' [] []) := by
  refine does_of Tryz.func11 Tryz.ntmps11 rfl ?_
  refine nR85 ?_
  have H := Hp.refl w0
  refine run_seq ?_
  refine run_region ?_
  refine ops_val (ex_assign rfl) ?_
  refine ops_nil ?_
  refine nR85 ?_
  refine run_seq ?_
  refine run_seq ?_
  refine run_region ?_
  refine ops_val (ex_move rfl) ?_
  refine ops_true (ex_eql_nil_ptr Tryz.underlying23 rfl) (rfl) ?_
  refine ops_nil ?_
  refine nR85 ?_
  refine run_cond_true rfl ?_
  refine run_seq ?_
  refine run_region ?_
  refine ops_val (ex_assign rfl) ?_
  refine ops_nil ?_
  refine nR85 ?_
  refine run_ret ?_
  refine fin_ret1 rfl rfl ?_
  exact ⟨rfl, H⟩
set_option maxRecDepth 100000 in
set_option maxHeartbeats 4000000 in
theorem fold_nil (A : Option Addr) (n c : Nat) (w0 : World) :
    Does Tryz.prog 12 #[.pointer none, .slice A n c] w0 (fun r w' => r = .int .i64 2 ∧ Hp w0 w' [] []) := by
  refine does_of Tryz.func12 Tryz.ntmps12 rfl ?_
  refine nR74 ?_
  have H := Hp.refl w0
  refine run_seq ?_
  refine run_region ?_
  refine ops_val (ex_assign rfl) ?_
  refine ops_nil ?_
  refine nR74 ?_
  refine run_seq ?_
  refine run_seq ?_
  refine run_region ?_
  refine ops_val (ex_move rfl) ?_
  refine ops_true (ex_eql_nil_ptr Tryz.underlying23 rfl) (rfl) ?_
  refine ops_nil ?_
  refine nR74 ?_
  refine run_cond_true rfl ?_
  refine run_seq ?_
  refine run_region ?_
  refine ops_val (ex_assign rfl) ?_
  refine ops_nil ?_
  refine nR74 ?_
  refine run_ret ?_
  refine fin_ret1 rfl rfl ?_
  exact ⟨rfl, H⟩
set_option maxRecDepth 100000 in
set_option maxHeartbeats 4000000 in
theorem vlen_nil (w0 : World) :
    Does Tryz.prog 16 #[.pointer none] w0 (fun r w' => r = .int .i64 0 ∧ Hp w0 w' [] []) := by
  refine does_of Tryz.func16 Tryz.ntmps16 rfl ?_
  refine nR16 ?_
  have H := Hp.refl w0
  refine run_seq ?_
  refine run_region ?_
  refine ops_val (ex_assign rfl) ?_
  refine ops_nil ?_
  refine nR16 ?_
  refine run_seq ?_
  refine run_seq ?_
  refine run_region ?_
  refine ops_val (ex_move rfl) ?_
  refine ops_true (ex_eql_nil_ptr Tryz.underlying23 rfl) (rfl) ?_
  refine ops_nil ?_
  refine nR16 ?_
  refine run_cond_true rfl ?_
  refine run_seq ?_
  refine run_region ?_
  refine ops_val (ex_assign rfl) ?_
  refine ops_nil ?_
  refine nR16 ?_
  refine run_ret ?_
  refine fin_ret1 rfl rfl ?_
  exact ⟨rfl, H⟩
set_option maxRecDepth 100000 in
set_option maxHeartbeats 4000000 in
theorem book_nil (w0 : World) :
    Does Tryz.prog 14 #[.pointer none] w0 (fun r w' => ∃ cs, r = .agg cs.toArray ∧ BoR w' (fun x => w0.heap.size ≤ x) cs Bo.empty ∧ Hp w0 w' [] []) := by
  refine does_of Tryz.func14 Tryz.ntmps14 rfl ?_
  change Run _ _ _ _ [.pointer none, undef, undef, undef, undef, undef, undef, undef, undef, undef, undef] _
  have H := Hp.refl w0
  refine run_seq ?_
  refine run_region ?_
  refine ops_alloc ty41 H ?_
  intro w1 g2 H1 _
  refine ops_nil ?_
  change Run _ _ _ _ [_, _, _, _, _, _, _, _, _, _, _] _
  refine run_seq ?_
  refine run_seq ?_
  refine run_region ?_
  refine ops_val (ex_move rfl) ?_
  refine ops_true (ex_eql_nil_ptr Tryz.underlying23 rfl) (rfl) ?_
  refine ops_nil ?_
  change Run _ _ _ _ [_, _, _, _, _, _, _, _, _, _, _] _
  refine run_cond_true rfl ?_
  refine run_seq ?_
  refine run_region ?_
  have hnf := Hp.fresh H1
  have hsz := H1.size
  refine ops_call (ex_call gf29 rfl) (empty_v _) ?_
  rintro _ w2 ⟨_, rfl, ⟨E1, e1, E2, e2, E3, e3, rfl, hE1, hE2, hE3⟩, Hd⟩
  have HC := H1.callN Hd
  have H2 := HC.here
  refine ops_store ty41 H2 0 (vs := [.slice E1 Bo.empty.groups.length e1, .slice E2 Bo.empty.rights.length e2, .slice E3 Bo.empty.last.length e3]) rfl rfl rfl rfl rfl (Nat.le_refl 3) rfl ?_
  intro w3 H3
  refine ops_nil ?_
  change Run _ _ _ _ [_, _, _, _, _, _, _, _, _, _, _] _
  refine run_ret ?_
  refine fin_cell rfl ty41 (cs := [.slice E1 Bo.empty.groups.length e1, .slice E2 Bo.empty.rights.length e2, .slice E3 Bo.empty.last.length e3]) rfl rfl (H3.cellsR (i := 0) rfl rfl) ?_
  exact ⟨_, rfl, ⟨E1, e1, E2, e2, E3, e3, rfl, hE1.toS H3 (fun x hx _ => ⟨hnf x hx, Nat.le_trans hsz hx⟩), hE2.toR H3 (fun x hx _ => ⟨hnf x hx, Nat.le_trans hsz hx⟩), hE3.toM H3 (fun x hx _ => ⟨hnf x hx, Nat.le_trans hsz hx⟩)⟩, (HC.all H3).noRows⟩
end Go.Proofs.YtjoeklkmnfaabaaGreat
/-
  A list that grows by append, in a row of its own.
-/
namespace Go.Proofs.YtjoeklkmnfaabaaGreat
open Go Go.RowKit

def Gw (sz : Nat) (g : Option Nat) (cap : Nat) (qs : List (List Value)) (sp : List Value) : Prop := cap * sz ≤ (qs.flatten ++ sp).length ∧ qs.length ≤ cap ∧ (g = none → cap = 0) ∧ Pl sz qs
theorem Gw.nil (sz : Nat) : Gw sz none 0 [] [] := ⟨by simp, Nat.le_refl _, fun _ => rfl, Pl.nil _⟩
section
variable {P : Program} {ds : List Deferred} {Q : Post} {K : List Value → World → Prop} {all os : List Oper} {l : List Value} {w0 w w' : World} {S S' : List Nat} {es es' : List Ent} {ty t : TypeId} {pos : String} {af : Array Edge} {d : Tmp} {v : Value} {op : Op}
end
section
variable {α : Type} {f : α → Bool} {ps : List α} {i : Nat} {p : α}
end
end Go.Proofs.YtjoeklkmnfaabaaGreat
/-
  Rows of votes and entries, sifted.
-/
namespace Go.Proofs.YtjoeklkmnfaabaaGreat
open Go Go.RowKit

section
variable {w : World} {ok : Nat → Prop} {ps : List (List Value)} {l : List Vt} {q : List Value} {v : Vt} {n : Int}
end
end Go.Proofs.YtjoeklkmnfaabaaGreat
/-
  Rows of rights and marks, sifted; a table with one mark more, client by client.
-/
namespace Go.Proofs.YtjoeklkmnfaabaaGreat
open Go Go.RowKit

end Go.Proofs.YtjoeklkmnfaabaaGreat
/- Walks of layer 2, printed by wip/gen/codec.py. -/
namespace Go.Proofs.YtjoeklkmnfaabaaGreat
open Go Go.RowKit
set_option linter.unusedVariables false
attribute [local irreducible] Still Ops Does Cd
set_option maxRecDepth 100000 in
set_option maxHeartbeats 4000000 in
theorem plainR (A B : Option Addr) (k k2 : Nat) (l : List Rt) (ok ok2 : Nat → Prop) (w0 : World) (hl : Sl RtR 4 w0 ok A l) (hl2 : Sl RtR 4 w0 ok2 B l) (hn : l.length ≤ 1000000000000000000) :
    Does Tryz.prog 44 #[.slice A l.length k, .slice B l.length k2] w0 (fun r w' => r = .bool true ∧ Hp w0 w' [] []) := by
  refine does_of Tryz.func44 Tryz.ntmps44 rfl ?_
  refine nR26 ?_
  have H := Hp.refl w0
  obtain ⟨ps, hp, hr, _, h2⟩ := hl
  obtain ⟨qs, hq, hrb, _, h2b⟩ := hl2
  refine run_seq ?_
  refine run_region ?_
  refine ops_val (ex_assign rfl) ?_
  refine ops_nil ?_
  refine nR26 ?_
  refine run_seq ?_
  refine run_seq ?_
  refine run_region ?_
  refine ops_val (ex_move rfl) ?_
  refine ops_val (ex_len_slice Tryz.underlying38 rfl) ?_
  refine ops_val (ex_move rfl) ?_
  refine ops_val (ex_len_slice Tryz.underlying38 rfl) ?_
  refine nO26 ?_
  refine ops_false (ex_neq rfl rfl) (fun h => h rfl) ?_
  refine ops_nil ?_
  refine nR26 ?_
  refine run_cond_false rfl ?_
  refine run_skip ?_
  refine run_seq ?_
  refine run_seq ?_
  refine run_region ?_
  refine ops_val (ex_assign rfl) ?_
  refine ops_nil ?_
  refine nR26 ?_
  refine run_block ?_
  refine run_loop (fun nQ lQ w => ∃ (i : Nat) (y : Int), l.length - i = nQ ∧ Fits [some (.slice A l.length k), some (.slice B l.length k2), none, none, none, some (.int .i64 y), none, none, none, none, none, none, none, none, none, none, none, none, none, none, none, none, none, none, none, none] lQ ∧ y = (i : Int) ∧ i ≤ l.length ∧ Hp w0 w [] []) (l.length) ?_ ?_
  · exact ⟨0, _, rfl, (fs (fs (fn (fn (fn (fs (fn (fn (fn (fn (fn (fn (fn (fn (fn (fn (fn (fn (fn (fn (fn (fn (fn (fn (fn (fn f0)))))))))))))))))))))))))), rfl, Nat.zero_le _, H⟩
  · rintro nQ lQ w1 ⟨i, y, rfl, hfit, rfl, hi, H1⟩
    obtain ⟨j, rfl⟩ := hfit.open
    refine nR26 ?_
    clear hfit
    refine run_seq ?_
    refine run_seq ?_
    refine run_region ?_
    refine ops_val (ex_move rfl) ?_
    refine ops_val (ex_move rfl) ?_
    refine ops_val (ex_len_slice Tryz.underlying38 rfl) ?_
    refine ops_test (ex_lss rfl rfl) (fun hp14 => ?_) (fun hp14 => ?_)
    · have hil : i < l.length := by omega
      obtain ⟨x, hx⟩ := get_of hil
      obtain ⟨p1, hp1, hR⟩ := h2.get hx
      obtain ⟨p2, hp2, hR2⟩ := h2b.get hx
      obtain ⟨a1, ha1⟩ := hr.some_ (by omega)
      obtain ⟨a2, ha2⟩ := hrb.some_ (by omega)
      subst ha1 ha2
      unfold RtR at hR hR2
      subst hR hR2
      refine ops_nil ?_
      refine nR26 ?_
      refine run_cond_true rfl ?_
      refine run_skip ?_
      refine run_seq ?_
      refine run_block ?_
      refine run_seq ?_
      refine run_still mixed (by kernel_rfl) ?_
      rintro w2 hw2
      have H2 := Hp.drew H1; rw [← hw2] at H2
      refine still_val (ex_move rfl) ?_
      refine still_val (ex_move rfl) ?_
      refine still_val (ex_idx Tryz.underlying38 ty35 rfl rfl (len := l.length) (i := i) (by omega) (by omega) rfl) ?_
      refine still_val (ex_loadN ty35 rfl (vs := [.int .i64 x.g, strV x.key, .int .i64 x.lease, .int .i64 x.net]) rfl ((hr.to0 H2).elem hp hp1)) ?_
      refine nS26 ?_
      refine still_val (ex_move rfl) ?_
      refine still_val (ex_move rfl) ?_
      refine still_val (ex_idx Tryz.underlying38 ty35 rfl rfl (len := l.length) (i := i) (by omega) (by omega) rfl) ?_
      refine still_val (ex_loadN ty35 rfl (vs := [.int .i64 x.g, strV x.key, .int .i64 x.lease, .int .i64 x.net]) rfl ((hrb.to0 H2).elem hq hp2)) ?_
      refine nS26 ?_
      refine still_val (ex_neq_rt rfl rfl) ?_
      refine still_nil ?_
      refine nR26 ?_
      refine run_cond_false rfl ?_
      refine run_skip ?_
      refine run_nil (blk_normal ?_)
      refine run_region ?_
      refine ops_val (ex_move rfl) ?_
      refine ops_val (ex_add rfl rfl (IntWalk.i64_in _ (by omega))) ?_
      refine ops_val (ex_assign rfl) ?_
      refine ops_nil ?_
      refine nR26 ?_
      refine run_nil (rnd_normal ?_)
      exact ⟨l.length - (i + 1), by omega, i + 1, _, rfl, (fs (fs (fn (fn (fn (fs (fn (fn (fn (fn (fn (fn (fn (fn (fn (fn (fn (fn (fn (fn (fn (fn (fn (fn (fn (fn f0)))))))))))))))))))))))))), by omega, by omega, H2.noRows⟩
    · skip
      refine ops_nil ?_
      refine nR26 ?_
      refine run_cond_false rfl ?_
      refine run_exit ?_
      refine rnd_exit ?_
      refine blk_exit ?_
      refine run_seq ?_
      refine run_region ?_
      refine ops_val (ex_assign rfl) ?_
      refine ops_nil ?_
      refine nR26 ?_
      refine run_ret ?_
      refine fin_ret1 rfl rfl ?_
      exact ⟨rfl, H1.noRows⟩
set_option maxRecDepth 100000 in
set_option maxHeartbeats 4000000 in
theorem plainM (A B : Option Addr) (k k2 : Nat) (l : List Mk) (ok ok2 : Nat → Prop) (w0 : World) (hl : Sl MkR 7 w0 ok A l) (hl2 : Sl MkR 7 w0 ok2 B l) (hn : l.length ≤ 1000000000000000000) :
    Does Tryz.prog 45 #[.slice A l.length k, .slice B l.length k2] w0 (fun r w' => r = .bool true ∧ Hp w0 w' [] []) := by
  refine does_of Tryz.func45 Tryz.ntmps45 rfl ?_
  refine nR26 ?_
  have H := Hp.refl w0
  obtain ⟨ps, hp, hr, _, h2⟩ := hl
  obtain ⟨qs, hq, hrb, _, h2b⟩ := hl2
  refine run_seq ?_
  refine run_region ?_
  refine ops_val (ex_assign rfl) ?_
  refine ops_nil ?_
  refine nR26 ?_
  refine run_seq ?_
  refine run_seq ?_
  refine run_region ?_
  refine ops_val (ex_move rfl) ?_
  refine ops_val (ex_len_slice Tryz.underlying39 rfl) ?_
  refine ops_val (ex_move rfl) ?_
  refine ops_val (ex_len_slice Tryz.underlying39 rfl) ?_
  refine nO26 ?_
  refine ops_false (ex_neq rfl rfl) (fun h => h rfl) ?_
  refine ops_nil ?_
  refine nR26 ?_
  refine run_cond_false rfl ?_
  refine run_skip ?_
  refine run_seq ?_
  refine run_seq ?_
  refine run_region ?_
  refine ops_val (ex_assign rfl) ?_
  refine ops_nil ?_
  refine nR26 ?_
  refine run_block ?_
  refine run_loop (fun nQ lQ w => ∃ (i : Nat) (y : Int), l.length - i = nQ ∧ Fits [some (.slice A l.length k), some (.slice B l.length k2), none, none, none, some (.int .i64 y), none, none, none, none, none, none, none, none, none, none, none, none, none, none, none, none, none, none, none, none] lQ ∧ y = (i : Int) ∧ i ≤ l.length ∧ Hp w0 w [] []) (l.length) ?_ ?_
  · exact ⟨0, _, rfl, (fs (fs (fn (fn (fn (fs (fn (fn (fn (fn (fn (fn (fn (fn (fn (fn (fn (fn (fn (fn (fn (fn (fn (fn (fn (fn f0)))))))))))))))))))))))))), rfl, Nat.zero_le _, H⟩
  · rintro nQ lQ w1 ⟨i, y, rfl, hfit, rfl, hi, H1⟩
    obtain ⟨j, rfl⟩ := hfit.open
    refine nR26 ?_
    clear hfit
    refine run_seq ?_
    refine run_seq ?_
    refine run_region ?_
    refine ops_val (ex_move rfl) ?_
    refine ops_val (ex_move rfl) ?_
    refine ops_val (ex_len_slice Tryz.underlying39 rfl) ?_
    refine ops_test (ex_lss rfl rfl) (fun hp14 => ?_) (fun hp14 => ?_)
    · have hil : i < l.length := by omega
      obtain ⟨x, hx⟩ := get_of hil
      obtain ⟨p1, hp1, hR⟩ := h2.get hx
      obtain ⟨p2, hp2, hR2⟩ := h2b.get hx
      obtain ⟨a1, ha1⟩ := hr.some_ (by omega)
      obtain ⟨a2, ha2⟩ := hrb.some_ (by omega)
      subst ha1 ha2
      unfold MkR at hR hR2
      subst hR hR2
      refine ops_nil ?_
      refine nR26 ?_
      refine run_cond_true rfl ?_
      refine run_skip ?_
      refine run_seq ?_
      refine run_block ?_
      refine run_seq ?_
      refine run_still mixed (by kernel_rfl) ?_
      rintro w2 hw2
      have H2 := Hp.drew H1; rw [← hw2] at H2
      refine still_val (ex_move rfl) ?_
      refine still_val (ex_move rfl) ?_
      refine still_val (ex_idx Tryz.underlying39 ty110 rfl rfl (len := l.length) (i := i) (by omega) (by omega) rfl) ?_
      refine still_val (ex_loadN ty110 rfl (vs := [.int .i64 x.client, .int .i64 x.seq, .bool false, .int .i64 0, .int .i64 0, .int .i64 0, .int .i64 0]) rfl ((hr.to0 H2).elem hp hp1)) ?_
      refine nS26 ?_
      refine still_val (ex_move rfl) ?_
      refine still_val (ex_move rfl) ?_
      refine still_val (ex_idx Tryz.underlying39 ty110 rfl rfl (len := l.length) (i := i) (by omega) (by omega) rfl) ?_
      refine still_val (ex_loadN ty110 rfl (vs := [.int .i64 x.client, .int .i64 x.seq, .bool false, .int .i64 0, .int .i64 0, .int .i64 0, .int .i64 0]) rfl ((hrb.to0 H2).elem hq hp2)) ?_
      refine nS26 ?_
      refine still_val (ex_neq_mk rfl rfl) ?_
      refine still_nil ?_
      refine nR26 ?_
      refine run_cond_false rfl ?_
      refine run_skip ?_
      refine run_nil (blk_normal ?_)
      refine run_region ?_
      refine ops_val (ex_move rfl) ?_
      refine ops_val (ex_add rfl rfl (IntWalk.i64_in _ (by omega))) ?_
      refine ops_val (ex_assign rfl) ?_
      refine ops_nil ?_
      refine nR26 ?_
      refine run_nil (rnd_normal ?_)
      exact ⟨l.length - (i + 1), by omega, i + 1, _, rfl, (fs (fs (fn (fn (fn (fs (fn (fn (fn (fn (fn (fn (fn (fn (fn (fn (fn (fn (fn (fn (fn (fn (fn (fn (fn (fn f0)))))))))))))))))))))))))), by omega, by omega, H2.noRows⟩
    · skip
      refine ops_nil ?_
      refine nR26 ?_
      refine run_cond_false rfl ?_
      refine run_exit ?_
      refine rnd_exit ?_
      refine blk_exit ?_
      refine run_seq ?_
      refine run_region ?_
      refine ops_val (ex_assign rfl) ?_
      refine ops_nil ?_
      refine nR26 ?_
      refine run_ret ?_
      refine fin_ret1 rfl rfl ?_
      exact ⟨rfl, H1.noRows⟩
set_option maxRecDepth 100000 in
set_option maxHeartbeats 4000000 in
theorem same_vt (x : Vt) (Ax Ay : Option Addr) (kx ky : Nat) (ok ok2 : Nat → Prop) (w0 : World) (ha : Bs w0 ok Ax x.val) (hb : Bs w0 ok2 Ay x.val) :
    Does Tryz.prog 127 #[.agg [.int .i64 x.slot, .int .i64 x.b.r, .int .i64 x.b.n, .slice Ax x.val.length kx].toArray, .agg [.int .i64 x.slot, .int .i64 x.b.r, .int .i64 x.b.n, .slice Ay x.val.length ky].toArray] w0 (fun r w' => r = .bool true ∧ Hp w0 w' [] []) := by
  refine does_of Tryz.func127 Tryz.ntmps127 rfl ?_
  refine nR24 ?_
  have H := Hp.refl w0
  refine run_seq ?_
  refine run_region ?_
  refine ops_box rfl rfl H ?_
  intro w1 g1 H1 hg1
  refine ops_box rfl rfl H1 ?_
  intro w2 g2 H2 hg2
  refine ops_val (ex_assign rfl) ?_
  refine ops_nil ?_
  refine nR24 ?_
  refine run_seq ?_
  refine run_region ?_
  refine ops_val (ex_fieldAddr fl77_0 rfl) ?_
  refine ops_val (ex_load ty3 rfl (H2.cell (i := 0) rfl rfl)) ?_
  refine ops_val (ex_fieldAddr fl77_0 rfl) ?_
  refine ops_val (ex_load ty3 rfl (H2.cell (i := 1) rfl rfl)) ?_
  refine nO24 ?_
  refine ops_true (ex_eql rfl rfl) (rfl) ?_
  refine ops_val (ex_move rfl) ?_
  refine nO24 ?_
  refine ops_yes rfl ?_
  refine ops_val (ex_fieldAddr fl77_1 rfl) ?_
  refine ops_yes rfl ?_
  refine ops_val (ex_loadN ty75 rfl (vs := [.int .i64 x.b.r, .int .i64 x.b.n]) rfl (H2.cellsR (i := 0) rfl rfl)) ?_
  refine nO24 ?_
  refine ops_yes rfl ?_
  refine ops_val (ex_fieldAddr fl77_1 rfl) ?_
  refine ops_yes rfl ?_
  refine ops_val (ex_loadN ty75 rfl (vs := [.int .i64 x.b.r, .int .i64 x.b.n]) rfl (H2.cellsR (i := 1) rfl rfl)) ?_
  refine nO24 ?_
  refine ops_yes rfl ?_
  refine ops_true (ex_eql_bal rfl rfl) (⟨rfl, rfl⟩) ?_
  refine ops_val (ex_pick_t rfl rfl) ?_
  refine ops_val (ex_move rfl) ?_
  refine nO24 ?_
  refine ops_yes rfl ?_
  refine ops_val (ex_fieldAddr fl77_2 rfl) ?_
  refine ops_yes rfl ?_
  refine ops_val (ex_load ty73 rfl (H2.cell (i := 0) rfl rfl)) ?_
  refine nO24 ?_
  refine ops_yes rfl ?_
  refine ops_val (ex_fieldAddr fl77_2 rfl) ?_
  refine ops_yes rfl ?_
  refine ops_val (ex_load ty73 rfl (H2.cell (i := 1) rfl rfl)) ?_
  refine nO24 ?_
  refine ops_yes rfl ?_
  have hby := bytes_any Ax Ay x.val x.val kx ky _ (ha.1.to0 H2) (hb.1.to0 H2) (by have := ha.2.2; omega) (by have := hb.2.2; omega)
  rw [decide_eq_true rfl] at hby
  refine ops_call_val (ex_call gf85 rfl) hby ?_
  intro w3 Hd
  have H3 := H2.callN Hd
  refine ops_val (ex_pick_t rfl rfl) ?_
  refine ops_val (ex_assign rfl) ?_
  refine ops_nil ?_
  refine nR24 ?_
  refine run_ret ?_
  refine fin_ret1 rfl rfl ?_
  exact ⟨rfl, H3.noRows⟩
set_option maxRecDepth 100000 in
set_option maxHeartbeats 4000000 in
theorem same_en (x : En) (Ax Ay : Option Addr) (kx ky : Nat) (ok ok2 : Nat → Prop) (w0 : World) (ha : Bs w0 ok Ax x.val) (hb : Bs w0 ok2 Ay x.val) :
    Does Tryz.prog 130 #[.agg [.int .i64 x.slot, .slice Ax x.val.length kx].toArray, .agg [.int .i64 x.slot, .slice Ay x.val.length ky].toArray] w0 (fun r w' => r = .bool true ∧ Hp w0 w' [] []) := by
  refine does_of Tryz.func130 Tryz.ntmps130 rfl ?_
  refine nR17 ?_
  have H := Hp.refl w0
  refine run_seq ?_
  refine run_region ?_
  refine ops_box rfl rfl H ?_
  intro w1 g1 H1 hg1
  refine ops_box rfl rfl H1 ?_
  intro w2 g2 H2 hg2
  refine ops_val (ex_assign rfl) ?_
  refine ops_nil ?_
  refine nR17 ?_
  refine run_seq ?_
  refine run_region ?_
  refine ops_val (ex_fieldAddr fl79_0 rfl) ?_
  refine ops_val (ex_load ty3 rfl (H2.cell (i := 0) rfl rfl)) ?_
  refine ops_val (ex_fieldAddr fl79_0 rfl) ?_
  refine ops_val (ex_load ty3 rfl (H2.cell (i := 1) rfl rfl)) ?_
  refine nO17 ?_
  refine ops_true (ex_eql rfl rfl) (rfl) ?_
  refine ops_val (ex_move rfl) ?_
  refine nO17 ?_
  refine ops_yes rfl ?_
  refine ops_val (ex_fieldAddr fl79_1 rfl) ?_
  refine ops_yes rfl ?_
  refine ops_val (ex_load ty73 rfl (H2.cell (i := 0) rfl rfl)) ?_
  refine nO17 ?_
  refine ops_yes rfl ?_
  refine ops_val (ex_fieldAddr fl79_1 rfl) ?_
  refine ops_yes rfl ?_
  refine ops_val (ex_load ty73 rfl (H2.cell (i := 1) rfl rfl)) ?_
  refine nO17 ?_
  refine ops_yes rfl ?_
  have hby := bytes_any Ax Ay x.val x.val kx ky _ (ha.1.to0 H2) (hb.1.to0 H2) (by have := ha.2.2; omega) (by have := hb.2.2; omega)
  rw [decide_eq_true rfl] at hby
  refine ops_call_val (ex_call gf85 rfl) hby ?_
  intro w3 Hd
  have H3 := H2.callN Hd
  refine ops_val (ex_pick_t rfl rfl) ?_
  refine ops_val (ex_assign rfl) ?_
  refine ops_nil ?_
  refine nR17 ?_
  refine run_ret ?_
  refine fin_ret1 rfl rfl ?_
  exact ⟨rfl, H3.noRows⟩
set_option maxRecDepth 100000 in
set_option maxHeartbeats 4000000 in
theorem same_vts0 (A B : Option Addr) (k k2 : Nat) (l : List Vt) (ok ok2 : Nat → Prop) (w0 : World) (hl : Sl (VtR w0 ok) 4 w0 ok A l) (hl2 : Sl (VtR w0 ok2) 4 w0 ok2 B l) (hn : l.length ≤ 1000000000000000000) :
    Does Tryz.prog 126 #[.slice A l.length k, .slice B l.length k2, .func (.func 127) #[] #[]] w0 (fun r w' => r = .bool true ∧ Hp w0 w' [] []) := by
  refine does_of Tryz.func126 Tryz.ntmps126 rfl ?_
  refine nR30 ?_
  have H := Hp.refl w0
  obtain ⟨ps, hp, hr, _, h2⟩ := hl
  obtain ⟨qs, hq, hrb, _, h2b⟩ := hl2
  refine run_seq ?_
  refine run_region ?_
  refine ops_val (ex_assign rfl) ?_
  refine ops_nil ?_
  refine nR30 ?_
  refine run_seq ?_
  refine run_seq ?_
  refine run_region ?_
  refine ops_val (ex_move rfl) ?_
  refine ops_val (ex_len_slice Tryz.underlying94 rfl) ?_
  refine ops_val (ex_move rfl) ?_
  refine ops_val (ex_len_slice Tryz.underlying94 rfl) ?_
  refine nO30 ?_
  refine ops_false (ex_neq rfl rfl) (fun h => h rfl) ?_
  refine ops_nil ?_
  refine nR30 ?_
  refine run_cond_false rfl ?_
  refine run_skip ?_
  refine run_seq ?_
  refine run_seq ?_
  refine run_region ?_
  refine ops_val (ex_assign rfl) ?_
  refine ops_nil ?_
  refine nR30 ?_
  refine run_block ?_
  refine run_loop (fun nQ lQ w => ∃ (i : Nat) (y : Int), l.length - i = nQ ∧ Fits [some (.slice A l.length k), some (.slice B l.length k2), some (.func (.func 127) #[] #[]), none, none, none, none, some (.int .i64 y), none, none, none, none, none, none, none, none, none, none, none, none, none, none, none, none, none, none, none, none, none, none] lQ ∧ y = (i : Int) ∧ i ≤ l.length ∧ Hp w0 w [] []) (l.length) ?_ ?_
  · exact ⟨0, _, rfl, (fs (fs (fs (fn (fn (fn (fn (fs (fn (fn (fn (fn (fn (fn (fn (fn (fn (fn (fn (fn (fn (fn (fn (fn (fn (fn (fn (fn (fn (fn f0)))))))))))))))))))))))))))))), rfl, Nat.zero_le _, H⟩
  · rintro nQ lQ w1 ⟨i, y, rfl, hfit, rfl, hi, H1⟩
    obtain ⟨j, rfl⟩ := hfit.open
    refine nR30 ?_
    clear hfit
    refine run_seq ?_
    refine run_seq ?_
    refine run_region ?_
    refine ops_val (ex_move rfl) ?_
    refine ops_val (ex_move rfl) ?_
    refine ops_val (ex_len_slice Tryz.underlying94 rfl) ?_
    refine ops_test (ex_lss rfl rfl) (fun hp16 => ?_) (fun hp16 => ?_)
    · have hil : i < l.length := by omega
      obtain ⟨x, hx⟩ := get_of hil
      obtain ⟨p1, hp1, hR⟩ := h2.get hx
      obtain ⟨p2, hp2, hR2⟩ := h2b.get hx
      obtain ⟨a1, ha1⟩ := hr.some_ (by omega)
      obtain ⟨a2, ha2⟩ := hrb.some_ (by omega)
      subst ha1 ha2
      obtain ⟨Ax, kx, rfl, hbx⟩ := hR
      obtain ⟨Ay, ky, rfl, hby⟩ := hR2
      refine ops_nil ?_
      refine nR30 ?_
      refine run_cond_true rfl ?_
      refine run_skip ?_
      refine run_seq ?_
      refine run_block ?_
      refine run_seq ?_
      refine run_mixZ 10 [(true, 0), (true, 1), (true, 2), (true, 3), (true, 4), (true, 5), (true, 6), (true, 7), (true, 8), (false, 9), (false, 10)] H1 [] mixed (by decide) (by kernel_rfl) ?_
      rintro w2 hw2
      have H2 := Hp.drew H1; rw [← hw2] at H2
      refine mixz_p rfl ?_
      refine mix1_val (fun wz hz => ex_move rfl) ?_
      refine mixz_p rfl ?_
      refine mix1_val (fun wz hz => ex_move rfl) ?_
      refine mixz_p rfl ?_
      refine mix1_val (fun wz hz => ex_move rfl) ?_
      refine mixz_p rfl ?_
      refine mix1_val (fun wz hz => ex_idx Tryz.underlying94 ty77 rfl rfl (len := l.length) (i := i) (by omega) (by omega) rfl) ?_
      refine nZ30 ?_
      refine mixz_p rfl ?_
      refine mix1_val (fun wz hz => ex_loadN ty77 rfl (vs := [.int .i64 x.slot, .int .i64 x.b.r, .int .i64 x.b.n, .slice Ax x.val.length kx]) rfl ((hr.to0 hz).elem hp hp1)) ?_
      refine mixz_p rfl ?_
      refine mix1_val (fun wz hz => ex_move rfl) ?_
      refine mixz_p rfl ?_
      refine mix1_val (fun wz hz => ex_move rfl) ?_
      refine mixz_p rfl ?_
      refine mix1_val (fun wz hz => ex_idx Tryz.underlying94 ty77 rfl rfl (len := l.length) (i := i) (by omega) (by omega) rfl) ?_
      refine nZ30 ?_
      refine mixz_p rfl ?_
      refine mix1_val (fun wz hz => ex_loadN ty77 rfl (vs := [.int .i64 x.slot, .int .i64 x.b.r, .int .i64 x.b.n, .slice Ay x.val.length ky]) rfl ((hrb.to0 hz).elem hq hp2)) ?_
      refine mixz_o rfl ?_
      refine ops_call_val (ex_call_val gf127 rfl rfl) (same_vt x Ax Ay kx ky ok ok2 _ (hbx.to H2 k0) (hby.to H2 k0)) ?_
      intro w3 Hd
      have H3 := H2.callN Hd
      refine ops_nil ?_
      refine ⟨fun hne => H3.pick [] (by decide), ?_⟩
      refine nZ30 ?_
      refine mixz_o rfl ?_
      refine ops_val (ex_not rfl) ?_
      refine ops_nil ?_
      refine ⟨fun hne => absurd rfl hne, ?_⟩
      refine nZ30 ?_
      refine mixz_nil ?_
      refine nR30 ?_
      refine run_cond_false rfl ?_
      refine run_skip ?_
      refine run_nil (blk_normal ?_)
      refine run_region ?_
      refine ops_val (ex_move rfl) ?_
      refine ops_val (ex_add rfl rfl (IntWalk.i64_in _ (by omega))) ?_
      refine ops_val (ex_assign rfl) ?_
      refine ops_nil ?_
      refine nR30 ?_
      refine run_nil (rnd_normal ?_)
      exact ⟨l.length - (i + 1), by omega, i + 1, _, rfl, (fs (fs (fs (fn (fn (fn (fn (fs (fn (fn (fn (fn (fn (fn (fn (fn (fn (fn (fn (fn (fn (fn (fn (fn (fn (fn (fn (fn (fn (fn f0)))))))))))))))))))))))))))))), by omega, by omega, H3.noRows⟩
    · skip
      refine ops_nil ?_
      refine nR30 ?_
      refine run_cond_false rfl ?_
      refine run_exit ?_
      refine rnd_exit ?_
      refine blk_exit ?_
      refine run_seq ?_
      refine run_region ?_
      refine ops_val (ex_assign rfl) ?_
      refine ops_nil ?_
      refine nR30 ?_
      refine run_ret ?_
      refine fin_ret1 rfl rfl ?_
      exact ⟨rfl, H1.noRows⟩
set_option maxRecDepth 100000 in
set_option maxHeartbeats 4000000 in
theorem same_vts (A B : Option Addr) (k k2 : Nat) (l : List Vt) (ok ok2 : Nat → Prop) (w0 : World) (hl : Sl (VtR w0 ok) 4 w0 ok A l) (hl2 : Sl (VtR w0 ok2) 4 w0 ok2 B l) (hn : l.length ≤ 1000000000000000000) :
    Does Tryz.prog 84 #[.slice A l.length k, .slice B l.length k2] w0 (fun r w' => r = .bool true ∧ Hp w0 w' [] []) := by
  refine does_of Tryz.func84 Tryz.ntmps84 rfl ?_
  change Run _ _ _ _ [.slice A l.length k, .slice B l.length k2, undef, undef, undef, undef, undef, undef] _
  have H := Hp.refl w0
  refine run_seq ?_
  refine run_region ?_
  refine ops_val (ex_assign rfl) ?_
  refine ops_nil ?_
  change Run _ _ _ _ [_, _, _, _, _, _, _, _] _
  refine run_seq ?_
  refine run_region ?_
  refine ops_val (ex_move rfl) ?_
  refine ops_val (ex_move rfl) ?_
  refine ops_call_val (ex_call gf126 rfl) (same_vts0 A B k k2 l ok ok2 _ (hl.toV H k0) (hl2.toV H k0) hn) ?_
  intro w1 Hd
  have H1 := H.callN Hd
  refine ops_val (ex_assign rfl) ?_
  refine ops_nil ?_
  change Run _ _ _ _ [_, _, _, _, _, _, _, _] _
  refine run_ret ?_
  refine fin_ret1 rfl rfl ?_
  exact ⟨rfl, H1.noRows⟩
set_option maxRecDepth 100000 in
set_option maxHeartbeats 4000000 in
theorem same_ens0 (A B : Option Addr) (k k2 : Nat) (l : List En) (ok ok2 : Nat → Prop) (w0 : World) (hl : Sl (EnR w0 ok) 2 w0 ok A l) (hl2 : Sl (EnR w0 ok2) 2 w0 ok2 B l) (hn : l.length ≤ 1000000000000000000) :
    Does Tryz.prog 129 #[.slice A l.length k, .slice B l.length k2, .func (.func 130) #[] #[]] w0 (fun r w' => r = .bool true ∧ Hp w0 w' [] []) := by
  refine does_of Tryz.func129 Tryz.ntmps129 rfl ?_
  refine nR30 ?_
  have H := Hp.refl w0
  obtain ⟨ps, hp, hr, _, h2⟩ := hl
  obtain ⟨qs, hq, hrb, _, h2b⟩ := hl2
  refine run_seq ?_
  refine run_region ?_
  refine ops_val (ex_assign rfl) ?_
  refine ops_nil ?_
  refine nR30 ?_
  refine run_seq ?_
  refine run_seq ?_
  refine run_region ?_
  refine ops_val (ex_move rfl) ?_
  refine ops_val (ex_len_slice Tryz.underlying95 rfl) ?_
  refine ops_val (ex_move rfl) ?_
  refine ops_val (ex_len_slice Tryz.underlying95 rfl) ?_
  refine nO30 ?_
  refine ops_false (ex_neq rfl rfl) (fun h => h rfl) ?_
  refine ops_nil ?_
  refine nR30 ?_
  refine run_cond_false rfl ?_
  refine run_skip ?_
  refine run_seq ?_
  refine run_seq ?_
  refine run_region ?_
  refine ops_val (ex_assign rfl) ?_
  refine ops_nil ?_
  refine nR30 ?_
  refine run_block ?_
  refine run_loop (fun nQ lQ w => ∃ (i : Nat) (y : Int), l.length - i = nQ ∧ Fits [some (.slice A l.length k), some (.slice B l.length k2), some (.func (.func 130) #[] #[]), none, none, none, none, some (.int .i64 y), none, none, none, none, none, none, none, none, none, none, none, none, none, none, none, none, none, none, none, none, none, none] lQ ∧ y = (i : Int) ∧ i ≤ l.length ∧ Hp w0 w [] []) (l.length) ?_ ?_
  · exact ⟨0, _, rfl, (fs (fs (fs (fn (fn (fn (fn (fs (fn (fn (fn (fn (fn (fn (fn (fn (fn (fn (fn (fn (fn (fn (fn (fn (fn (fn (fn (fn (fn (fn f0)))))))))))))))))))))))))))))), rfl, Nat.zero_le _, H⟩
  · rintro nQ lQ w1 ⟨i, y, rfl, hfit, rfl, hi, H1⟩
    obtain ⟨j, rfl⟩ := hfit.open
    refine nR30 ?_
    clear hfit
    refine run_seq ?_
    refine run_seq ?_
    refine run_region ?_
    refine ops_val (ex_move rfl) ?_
    refine ops_val (ex_move rfl) ?_
    refine ops_val (ex_len_slice Tryz.underlying95 rfl) ?_
    refine ops_test (ex_lss rfl rfl) (fun hp16 => ?_) (fun hp16 => ?_)
    · have hil : i < l.length := by omega
      obtain ⟨x, hx⟩ := get_of hil
      obtain ⟨p1, hp1, hR⟩ := h2.get hx
      obtain ⟨p2, hp2, hR2⟩ := h2b.get hx
      obtain ⟨a1, ha1⟩ := hr.some_ (by omega)
      obtain ⟨a2, ha2⟩ := hrb.some_ (by omega)
      subst ha1 ha2
      obtain ⟨Ax, kx, rfl, hbx⟩ := hR
      obtain ⟨Ay, ky, rfl, hby⟩ := hR2
      refine ops_nil ?_
      refine nR30 ?_
      refine run_cond_true rfl ?_
      refine run_skip ?_
      refine run_seq ?_
      refine run_block ?_
      refine run_seq ?_
      refine run_mixZ 10 [(true, 0), (true, 1), (true, 2), (true, 3), (true, 4), (true, 5), (true, 6), (true, 7), (true, 8), (false, 9), (false, 10)] H1 [] mixed (by decide) (by kernel_rfl) ?_
      rintro w2 hw2
      have H2 := Hp.drew H1; rw [← hw2] at H2
      refine mixz_p rfl ?_
      refine mix1_val (fun wz hz => ex_move rfl) ?_
      refine mixz_p rfl ?_
      refine mix1_val (fun wz hz => ex_move rfl) ?_
      refine mixz_p rfl ?_
      refine mix1_val (fun wz hz => ex_move rfl) ?_
      refine mixz_p rfl ?_
      refine mix1_val (fun wz hz => ex_idx Tryz.underlying95 ty79 rfl rfl (len := l.length) (i := i) (by omega) (by omega) rfl) ?_
      refine nZ30 ?_
      refine mixz_p rfl ?_
      refine mix1_val (fun wz hz => ex_loadN ty79 rfl (vs := [.int .i64 x.slot, .slice Ax x.val.length kx]) rfl ((hr.to0 hz).elem hp hp1)) ?_
      refine mixz_p rfl ?_
      refine mix1_val (fun wz hz => ex_move rfl) ?_
      refine mixz_p rfl ?_
      refine mix1_val (fun wz hz => ex_move rfl) ?_
      refine mixz_p rfl ?_
      refine mix1_val (fun wz hz => ex_idx Tryz.underlying95 ty79 rfl rfl (len := l.length) (i := i) (by omega) (by omega) rfl) ?_
      refine nZ30 ?_
      refine mixz_p rfl ?_
      refine mix1_val (fun wz hz => ex_loadN ty79 rfl (vs := [.int .i64 x.slot, .slice Ay x.val.length ky]) rfl ((hrb.to0 hz).elem hq hp2)) ?_
      refine mixz_o rfl ?_
      refine ops_call_val (ex_call_val gf130 rfl rfl) (same_en x Ax Ay kx ky ok ok2 _ (hbx.to H2 k0) (hby.to H2 k0)) ?_
      intro w3 Hd
      have H3 := H2.callN Hd
      refine ops_nil ?_
      refine ⟨fun hne => H3.pick [] (by decide), ?_⟩
      refine nZ30 ?_
      refine mixz_o rfl ?_
      refine ops_val (ex_not rfl) ?_
      refine ops_nil ?_
      refine ⟨fun hne => absurd rfl hne, ?_⟩
      refine nZ30 ?_
      refine mixz_nil ?_
      refine nR30 ?_
      refine run_cond_false rfl ?_
      refine run_skip ?_
      refine run_nil (blk_normal ?_)
      refine run_region ?_
      refine ops_val (ex_move rfl) ?_
      refine ops_val (ex_add rfl rfl (IntWalk.i64_in _ (by omega))) ?_
      refine ops_val (ex_assign rfl) ?_
      refine ops_nil ?_
      refine nR30 ?_
      refine run_nil (rnd_normal ?_)
      exact ⟨l.length - (i + 1), by omega, i + 1, _, rfl, (fs (fs (fs (fn (fn (fn (fn (fs (fn (fn (fn (fn (fn (fn (fn (fn (fn (fn (fn (fn (fn (fn (fn (fn (fn (fn (fn (fn (fn (fn f0)))))))))))))))))))))))))))))), by omega, by omega, H3.noRows⟩
    · skip
      refine ops_nil ?_
      refine nR30 ?_
      refine run_cond_false rfl ?_
      refine run_exit ?_
      refine rnd_exit ?_
      refine blk_exit ?_
      refine run_seq ?_
      refine run_region ?_
      refine ops_val (ex_assign rfl) ?_
      refine ops_nil ?_
      refine nR30 ?_
      refine run_ret ?_
      refine fin_ret1 rfl rfl ?_
      exact ⟨rfl, H1.noRows⟩
set_option maxRecDepth 100000 in
set_option maxHeartbeats 4000000 in
theorem same_ens (A B : Option Addr) (k k2 : Nat) (l : List En) (ok ok2 : Nat → Prop) (w0 : World) (hl : Sl (EnR w0 ok) 2 w0 ok A l) (hl2 : Sl (EnR w0 ok2) 2 w0 ok2 B l) (hn : l.length ≤ 1000000000000000000) :
    Does Tryz.prog 86 #[.slice A l.length k, .slice B l.length k2] w0 (fun r w' => r = .bool true ∧ Hp w0 w' [] []) := by
  refine does_of Tryz.func86 Tryz.ntmps86 rfl ?_
  change Run _ _ _ _ [.slice A l.length k, .slice B l.length k2, undef, undef, undef, undef, undef, undef] _
  have H := Hp.refl w0
  refine run_seq ?_
  refine run_region ?_
  refine ops_val (ex_assign rfl) ?_
  refine ops_nil ?_
  change Run _ _ _ _ [_, _, _, _, _, _, _, _] _
  refine run_seq ?_
  refine run_region ?_
  refine ops_val (ex_move rfl) ?_
  refine ops_val (ex_move rfl) ?_
  refine ops_call_val (ex_call gf129 rfl) (same_ens0 A B k k2 l ok ok2 _ (hl.toE H k0) (hl2.toE H k0) hn) ?_
  intro w1 Hd
  have H1 := H.callN Hd
  refine ops_val (ex_assign rfl) ?_
  refine ops_nil ?_
  change Run _ _ _ _ [_, _, _, _, _, _, _, _] _
  refine run_ret ?_
  refine fin_ret1 rfl rfl ?_
  exact ⟨rfl, H1.noRows⟩
set_option maxRecDepth 100000 in
set_option maxHeartbeats 4000000 in
theorem same_sv (s : Sv) (A1 : Option Addr) (k1 : Nat) (A2 : Option Addr) (k2 : Nat) (A3 : Option Addr) (k3 : Nat) (C1 : Option Addr) (q1 : Nat) (C2 : Option Addr) (q2 : Nat) (C3 : Option Addr) (q3 : Nat) (ok ok2 : Nat → Prop) (w0 : World) (h1 : Sl (VtR w0 ok) 4 w0 ok A1 s.votes) (h2 : Bs w0 ok A2 s.image) (h3 : Sl (EnR w0 ok) 2 w0 ok A3 s.entries) (u1 : Sl (VtR w0 ok2) 4 w0 ok2 C1 s.votes) (u2 : Bs w0 ok2 C2 s.image) (u3 : Sl (EnR w0 ok2) 2 w0 ok2 C3 s.entries) (hv : s.votes.length ≤ 1000000000000000000) (he : s.entries.length ≤ 1000000000000000000) :
    Does Tryz.prog 43 #[.agg [.int .i64 s.p.r, .int .i64 s.p.n, .slice A1 s.votes.length k1, .int .i64 s.index, .slice A2 s.image.length k2, .slice A3 s.entries.length k3].toArray, .agg [.int .i64 s.p.r, .int .i64 s.p.n, .slice C1 s.votes.length q1, .int .i64 s.index, .slice C2 s.image.length q2, .slice C3 s.entries.length q3].toArray] w0 (fun r w' => r = .bool true ∧ Hp w0 w' [] []) := by
  refine does_of Tryz.func43 Tryz.ntmps43 rfl ?_
  refine nR38 ?_
  have H := Hp.refl w0
  refine run_seq ?_
  refine run_region ?_
  refine ops_box rfl rfl H ?_
  intro w1 g1 H1 hg1
  refine ops_box rfl rfl H1 ?_
  intro w2 g2 H2 hg2
  refine ops_val (ex_assign rfl) ?_
  refine ops_nil ?_
  refine nR38 ?_
  refine run_seq ?_
  refine run_region ?_
  refine ops_val (ex_fieldAddr fl97_0 rfl) ?_
  refine ops_val (ex_loadN ty75 rfl (vs := [.int .i64 s.p.r, .int .i64 s.p.n]) rfl (H2.cellsR (i := 0) rfl rfl)) ?_
  refine ops_val (ex_fieldAddr fl97_0 rfl) ?_
  refine ops_val (ex_loadN ty75 rfl (vs := [.int .i64 s.p.r, .int .i64 s.p.n]) rfl (H2.cellsR (i := 1) rfl rfl)) ?_
  refine nO38 ?_
  refine ops_true (ex_eql_bal rfl rfl) (⟨rfl, rfl⟩) ?_
  refine ops_val (ex_move rfl) ?_
  refine nO38 ?_
  refine ops_yes rfl ?_
  refine ops_val (ex_fieldAddr fl97_1 rfl) ?_
  refine ops_yes rfl ?_
  refine ops_val (ex_load ty94 rfl (H2.cell (i := 0) rfl rfl)) ?_
  refine nO38 ?_
  refine ops_yes rfl ?_
  refine ops_val (ex_fieldAddr fl97_1 rfl) ?_
  refine ops_yes rfl ?_
  refine ops_val (ex_load ty94 rfl (H2.cell (i := 1) rfl rfl)) ?_
  refine nO38 ?_
  refine ops_yes rfl ?_
  refine ops_call_val (ex_call gf84 rfl) (same_vts A1 C1 k1 q1 s.votes ok ok2 _ (h1.toV H2 k0) (u1.toV H2 k0) hv) ?_
  intro w3 Hd
  have H3 := H2.callN Hd
  refine ops_val (ex_pick_t rfl rfl) ?_
  refine ops_val (ex_move rfl) ?_
  refine nO38 ?_
  refine ops_yes rfl ?_
  refine ops_val (ex_fieldAddr fl97_2 rfl) ?_
  refine ops_yes rfl ?_
  refine ops_val (ex_load ty3 rfl (H3.cell (i := 0) rfl rfl)) ?_
  refine nO38 ?_
  refine ops_yes rfl ?_
  refine ops_val (ex_fieldAddr fl97_2 rfl) ?_
  refine ops_yes rfl ?_
  refine ops_val (ex_load ty3 rfl (H3.cell (i := 1) rfl rfl)) ?_
  refine nO38 ?_
  refine ops_yes rfl ?_
  refine ops_true (ex_eql rfl rfl) (rfl) ?_
  refine ops_val (ex_pick_t rfl rfl) ?_
  refine ops_val (ex_move rfl) ?_
  refine nO38 ?_
  refine ops_yes rfl ?_
  refine ops_val (ex_fieldAddr fl97_3 rfl) ?_
  refine ops_yes rfl ?_
  refine ops_val (ex_load ty73 rfl (H3.cell (i := 0) rfl rfl)) ?_
  refine nO38 ?_
  refine ops_yes rfl ?_
  refine ops_val (ex_fieldAddr fl97_3 rfl) ?_
  refine ops_yes rfl ?_
  refine ops_val (ex_load ty73 rfl (H3.cell (i := 1) rfl rfl)) ?_
  refine nO38 ?_
  refine ops_yes rfl ?_
  have hby := bytes_any A2 C2 s.image s.image k2 q2 _ (h2.1.to0 H3) (u2.1.to0 H3) (by have := h2.2.2; omega) (by have := u2.2.2; omega)
  rw [decide_eq_true rfl] at hby
  refine ops_call_val (ex_call gf85 rfl) hby ?_
  intro w4 Hd
  have H4 := H3.callN Hd
  refine ops_val (ex_pick_t rfl rfl) ?_
  refine ops_val (ex_move rfl) ?_
  refine nO38 ?_
  refine ops_yes rfl ?_
  refine ops_val (ex_fieldAddr fl97_4 rfl) ?_
  refine ops_yes rfl ?_
  refine ops_val (ex_load ty95 rfl (H4.cell (i := 0) rfl rfl)) ?_
  refine nO38 ?_
  refine ops_yes rfl ?_
  refine ops_val (ex_fieldAddr fl97_4 rfl) ?_
  refine ops_yes rfl ?_
  refine ops_val (ex_load ty95 rfl (H4.cell (i := 1) rfl rfl)) ?_
  refine nO38 ?_
  refine ops_yes rfl ?_
  refine ops_call_val (ex_call gf86 rfl) (same_ens A3 C3 k3 q3 s.entries ok ok2 _ (h3.toE H4 k0) (u3.toE H4 k0) he) ?_
  intro w5 Hd
  have H5 := H4.callN Hd
  refine ops_val (ex_pick_t rfl rfl) ?_
  refine ops_val (ex_assign rfl) ?_
  refine ops_nil ?_
  refine nR38 ?_
  refine run_ret ?_
  refine fin_ret1 rfl rfl ?_
  exact ⟨rfl, H5.noRows⟩
set_option maxRecDepth 100000 in
set_option maxHeartbeats 4000000 in
theorem same_svs (A B : Option Addr) (k kb : Nat) (l : List Sv) (ok ok2 : Nat → Prop) (w0 : World) (hl : Sl (SvR w0 ok) 6 w0 ok A l) (hl2 : Sl (SvR w0 ok2) 6 w0 ok2 B l) (hn : l.length ≤ 1000000000000000000) (hfew : ∀ x ∈ l, x.votes.length ≤ 1000000000000000000 ∧ x.entries.length ≤ 1000000000000000000) :
    Does Tryz.prog 42 #[.slice A l.length k, .slice B l.length kb, .func (.func 43) #[] #[]] w0 (fun r w' => r = .bool true ∧ Hp w0 w' [] []) := by
  refine does_of Tryz.func42 Tryz.ntmps42 rfl ?_
  refine nR30 ?_
  have H := Hp.refl w0
  obtain ⟨ps, hp, hr, _, h2⟩ := hl
  obtain ⟨qs, hq, hrb, _, h2b⟩ := hl2
  refine run_seq ?_
  refine run_region ?_
  refine ops_val (ex_assign rfl) ?_
  refine ops_nil ?_
  refine nR30 ?_
  refine run_seq ?_
  refine run_seq ?_
  refine run_region ?_
  refine ops_val (ex_move rfl) ?_
  refine ops_val (ex_len_slice Tryz.underlying37 rfl) ?_
  refine ops_val (ex_move rfl) ?_
  refine ops_val (ex_len_slice Tryz.underlying37 rfl) ?_
  refine nO30 ?_
  refine ops_false (ex_neq rfl rfl) (fun h => h rfl) ?_
  refine ops_nil ?_
  refine nR30 ?_
  refine run_cond_false rfl ?_
  refine run_skip ?_
  refine run_seq ?_
  refine run_seq ?_
  refine run_region ?_
  refine ops_val (ex_assign rfl) ?_
  refine ops_nil ?_
  refine nR30 ?_
  refine run_block ?_
  refine run_loop (fun nQ lQ w => ∃ (i : Nat) (y : Int), l.length - i = nQ ∧ Fits [some (.slice A l.length k), some (.slice B l.length kb), some (.func (.func 43) #[] #[]), none, none, none, none, some (.int .i64 y), none, none, none, none, none, none, none, none, none, none, none, none, none, none, none, none, none, none, none, none, none, none] lQ ∧ y = (i : Int) ∧ i ≤ l.length ∧ Hp w0 w [] []) (l.length) ?_ ?_
  · exact ⟨0, _, rfl, (fs (fs (fs (fn (fn (fn (fn (fs (fn (fn (fn (fn (fn (fn (fn (fn (fn (fn (fn (fn (fn (fn (fn (fn (fn (fn (fn (fn (fn (fn f0)))))))))))))))))))))))))))))), rfl, Nat.zero_le _, H⟩
  · rintro nQ lQ w1 ⟨i, y, rfl, hfit, rfl, hi, H1⟩
    obtain ⟨j, rfl⟩ := hfit.open
    refine nR30 ?_
    clear hfit
    refine run_seq ?_
    refine run_seq ?_
    refine run_region ?_
    refine ops_val (ex_move rfl) ?_
    refine ops_val (ex_move rfl) ?_
    refine ops_val (ex_len_slice Tryz.underlying37 rfl) ?_
    refine ops_test (ex_lss rfl rfl) (fun hp16 => ?_) (fun hp16 => ?_)
    · have hil : i < l.length := by omega
      obtain ⟨x, hx⟩ := get_of hil
      obtain ⟨p1, hp1, hR⟩ := h2.get hx
      obtain ⟨p2, hp2, hR2⟩ := h2b.get hx
      obtain ⟨a1, ha1⟩ := hr.some_ (by omega)
      obtain ⟨a2, ha2⟩ := hrb.some_ (by omega)
      subst ha1 ha2
      obtain ⟨A1, k1, A2, k2, A3, k3, rfl, h1, h3, h4⟩ := hR
      obtain ⟨C1, q1, C2, q2, C3, q3, rfl, u1, u3, u4⟩ := hR2
      have hfx := hfew x (mem_of hx)
      refine ops_nil ?_
      refine nR30 ?_
      refine run_cond_true rfl ?_
      refine run_skip ?_
      refine run_seq ?_
      refine run_block ?_
      refine run_seq ?_
      refine run_mixZ 10 [(true, 0), (true, 1), (true, 2), (true, 3), (true, 4), (true, 5), (true, 6), (true, 7), (true, 8), (false, 9), (false, 10)] H1 [] mixed (by decide) (by kernel_rfl) ?_
      rintro w2 hw2
      have H2 := Hp.drew H1; rw [← hw2] at H2
      refine mixz_p rfl ?_
      refine mix1_val (fun wz hz => ex_move rfl) ?_
      refine mixz_p rfl ?_
      refine mix1_val (fun wz hz => ex_move rfl) ?_
      refine mixz_p rfl ?_
      refine mix1_val (fun wz hz => ex_move rfl) ?_
      refine mixz_p rfl ?_
      refine mix1_val (fun wz hz => ex_idx Tryz.underlying37 ty97 rfl rfl (len := l.length) (i := i) (by omega) (by omega) rfl) ?_
      refine nZ30 ?_
      refine mixz_p rfl ?_
      refine mix1_val (fun wz hz => ex_loadN ty97 rfl (vs := [.int .i64 x.p.r, .int .i64 x.p.n, .slice A1 x.votes.length k1, .int .i64 x.index, .slice A2 x.image.length k2, .slice A3 x.entries.length k3]) rfl ((hr.to0 hz).elem hp hp1)) ?_
      refine mixz_p rfl ?_
      refine mix1_val (fun wz hz => ex_move rfl) ?_
      refine mixz_p rfl ?_
      refine mix1_val (fun wz hz => ex_move rfl) ?_
      refine mixz_p rfl ?_
      refine mix1_val (fun wz hz => ex_idx Tryz.underlying37 ty97 rfl rfl (len := l.length) (i := i) (by omega) (by omega) rfl) ?_
      refine nZ30 ?_
      refine mixz_p rfl ?_
      refine mix1_val (fun wz hz => ex_loadN ty97 rfl (vs := [.int .i64 x.p.r, .int .i64 x.p.n, .slice C1 x.votes.length q1, .int .i64 x.index, .slice C2 x.image.length q2, .slice C3 x.entries.length q3]) rfl ((hrb.to0 hz).elem hq hp2)) ?_
      refine mixz_o rfl ?_
      refine ops_call_val (ex_call_val gf43 rfl rfl) (same_sv x A1 k1 A2 k2 A3 k3 C1 q1 C2 q2 C3 q3 ok ok2 _ (h1.toV H2 k0) (h3.to H2 k0) (h4.toE H2 k0) (u1.toV H2 k0) (u3.to H2 k0) (u4.toE H2 k0) hfx.1 hfx.2) ?_
      intro w3 Hd
      have H3 := H2.callN Hd
      refine ops_nil ?_
      refine ⟨fun hne => H3.pick [] (by decide), ?_⟩
      refine nZ30 ?_
      refine mixz_o rfl ?_
      refine ops_val (ex_not rfl) ?_
      refine ops_nil ?_
      refine ⟨fun hne => absurd rfl hne, ?_⟩
      refine nZ30 ?_
      refine mixz_nil ?_
      refine nR30 ?_
      refine run_cond_false rfl ?_
      refine run_skip ?_
      refine run_nil (blk_normal ?_)
      refine run_region ?_
      refine ops_val (ex_move rfl) ?_
      refine ops_val (ex_add rfl rfl (IntWalk.i64_in _ (by omega))) ?_
      refine ops_val (ex_assign rfl) ?_
      refine ops_nil ?_
      refine nR30 ?_
      refine run_nil (rnd_normal ?_)
      exact ⟨l.length - (i + 1), by omega, i + 1, _, rfl, (fs (fs (fs (fn (fn (fn (fn (fs (fn (fn (fn (fn (fn (fn (fn (fn (fn (fn (fn (fn (fn (fn (fn (fn (fn (fn (fn (fn (fn (fn f0)))))))))))))))))))))))))))))), by omega, by omega, H3.noRows⟩
    · skip
      refine ops_nil ?_
      refine nR30 ?_
      refine run_cond_false rfl ?_
      refine run_exit ?_
      refine rnd_exit ?_
      refine blk_exit ?_
      refine run_seq ?_
      refine run_region ?_
      refine ops_val (ex_assign rfl) ?_
      refine ops_nil ?_
      refine nR30 ?_
      refine run_ret ?_
      refine fin_ret1 rfl rfl ?_
      exact ⟨rfl, H1.noRows⟩
set_option maxRecDepth 100000 in
set_option maxHeartbeats 4000000 in
theorem same_bo (b : Bo) (A1 : Option Addr) (k1 : Nat) (A2 : Option Addr) (k2 : Nat) (A3 : Option Addr) (k3 : Nat) (C1 : Option Addr) (q1 : Nat) (C2 : Option Addr) (q2 : Nat) (C3 : Option Addr) (q3 : Nat) (ok ok2 : Nat → Prop) (w0 : World) (h1 : Sl (SvR w0 ok) 6 w0 ok A1 b.groups) (h2 : Sl RtR 4 w0 ok A2 b.rights) (h3 : Sl MkR 7 w0 ok A3 b.last) (u1 : Sl (SvR w0 ok2) 6 w0 ok2 C1 b.groups) (u2 : Sl RtR 4 w0 ok2 C2 b.rights) (u3 : Sl MkR 7 w0 ok2 C3 b.last) (n1 : b.groups.length ≤ 1000000000000000000) (n2 : b.rights.length ≤ 1000000000000000000) (n3 : b.last.length ≤ 1000000000000000000) (hfew : ∀ x ∈ b.groups, x.votes.length ≤ 1000000000000000000 ∧ x.entries.length ≤ 1000000000000000000) :
    Does Tryz.prog 13 #[.agg [.slice A1 b.groups.length k1, .slice A2 b.rights.length k2, .slice A3 b.last.length k3].toArray, .agg [.slice C1 b.groups.length q1, .slice C2 b.rights.length q2, .slice C3 b.last.length q3].toArray] w0 (fun r w' => r = .bool true ∧ Hp w0 w' [] []) := by
  refine does_of Tryz.func13 Tryz.ntmps13 rfl ?_
  refine nR24 ?_
  have H := Hp.refl w0
  refine run_seq ?_
  refine run_region ?_
  refine ops_box rfl rfl H ?_
  intro w1 g1 H1 hg1
  refine ops_box rfl rfl H1 ?_
  intro w2 g2 H2 hg2
  refine ops_val (ex_assign rfl) ?_
  refine ops_nil ?_
  refine nR24 ?_
  refine run_seq ?_
  refine run_region ?_
  refine ops_val (ex_fieldAddr fl41_0 rfl) ?_
  refine ops_val (ex_load ty37 rfl (H2.cell (i := 0) rfl rfl)) ?_
  refine ops_val (ex_fieldAddr fl41_0 rfl) ?_
  refine ops_val (ex_load ty37 rfl (H2.cell (i := 1) rfl rfl)) ?_
  refine nO24 ?_
  refine ops_call_val (ex_call gf42 rfl) (same_svs A1 C1 k1 q1 b.groups ok ok2 _ (h1.toS H2 k0) (u1.toS H2 k0) n1 hfew) ?_
  intro w3 Hd
  have H3 := H2.callN Hd
  refine ops_val (ex_move rfl) ?_
  refine nO24 ?_
  refine ops_yes rfl ?_
  refine ops_val (ex_fieldAddr fl41_1 rfl) ?_
  refine ops_yes rfl ?_
  refine ops_val (ex_load ty38 rfl (H3.cell (i := 0) rfl rfl)) ?_
  refine nO24 ?_
  refine ops_yes rfl ?_
  refine ops_val (ex_fieldAddr fl41_1 rfl) ?_
  refine ops_yes rfl ?_
  refine ops_val (ex_load ty38 rfl (H3.cell (i := 1) rfl rfl)) ?_
  refine nO24 ?_
  refine ops_yes rfl ?_
  refine ops_call_val (ex_call gf44 rfl) (plainR A2 C2 k2 q2 b.rights ok ok2 _ (h2.toR H3 k0) (u2.toR H3 k0) n2) ?_
  intro w4 Hd
  have H4 := H3.callN Hd
  refine ops_val (ex_pick_t rfl rfl) ?_
  refine ops_val (ex_move rfl) ?_
  refine nO24 ?_
  refine ops_yes rfl ?_
  refine ops_val (ex_fieldAddr fl41_2 rfl) ?_
  refine ops_yes rfl ?_
  refine ops_val (ex_load ty39 rfl (H4.cell (i := 0) rfl rfl)) ?_
  refine nO24 ?_
  refine ops_yes rfl ?_
  refine ops_val (ex_fieldAddr fl41_2 rfl) ?_
  refine ops_yes rfl ?_
  refine ops_val (ex_load ty39 rfl (H4.cell (i := 1) rfl rfl)) ?_
  refine nO24 ?_
  refine ops_yes rfl ?_
  refine ops_call_val (ex_call gf45 rfl) (plainM A3 C3 k3 q3 b.last ok ok2 _ (h3.toM H4 k0) (u3.toM H4 k0) n3) ?_
  intro w5 Hd
  have H5 := H4.callN Hd
  refine ops_val (ex_pick_t rfl rfl) ?_
  refine ops_val (ex_assign rfl) ?_
  refine ops_nil ?_
  refine nR24 ?_
  refine run_ret ?_
  refine fin_ret1 rfl rfl ?_
  exact ⟨rfl, H5.noRows⟩
end Go.Proofs.YtjoeklkmnfaabaaGreat
/-
  First parts of a list; the books of first notes.
-/
namespace Go.Proofs.YtjoeklkmnfaabaaGreat
open Go Go.RowKit

theorem Sl.take {X : Type} {R : List Value → X → Prop} {sz : Nat} {w : World} {ok : Nat → Prop} {A : Option Addr} {xs : List X} (h : Sl R sz w ok A xs) {i : Nat} (hi : i ≤ xs.length) : Sl R sz w ok A (xs.take i) := by
  obtain ⟨ps, hp, hr, ha, h2⟩ := h
  have hl := h2.len
  refine ⟨ps.take i, hp.sub fun x hx => List.mem_of_mem_take hx, ⟨?_, fun a e j u hu => ?_, fun e => ?_⟩, fun h0 p e => ha (by rw [List.length_take] at h0; omega) p e, h2.take i⟩
  · rw [(hp.sub fun x hx => List.mem_of_mem_take hx : Pl sz (ps.take i)).len, List.length_take, List.length_take, hl]
  · refine hr.cells a e j u ?_
    rw [← hp.take_ i, List.getElem?_take] at hu
    split at hu
    · exact hu
    · cases hu
  · have := hr.nil e
    rw [List.length_take]; omega
theorem Rep.some {l : List Nt} {b : Bo} {e : Int} {c : Bo} (h : Rep l b e) (hc : repl Bo.empty l = some c) : b = c ∧ e = 0 ∧ Good c l.length := by
  rcases h with ⟨h1, h2, h3⟩ | ⟨h1, _⟩
  · rw [hc] at h1; cases h1; exact ⟨rfl, h2, h3⟩
  · rw [hc] at h1; cases h1
theorem Rep.none {l : List Nt} {b : Bo} {e : Int} (h : Rep l b e) (hc : repl Bo.empty l = none) : b = Bo.zero ∧ e = 21 := by
  rcases h with ⟨h1, _⟩ | ⟨_, h2⟩
  · rw [hc] at h1; cases h1
  · exact h2
end Go.Proofs.YtjoeklkmnfaabaaGreat
/-
  Notes of their own: whose values lie in blocks made anew, that may be written.
-/
namespace Go.Proofs.YtjoeklkmnfaabaaGreat
open Go Go.RowKit

def Ownd (w : World) (n0 : Nat) (gi g : Option Nat) (b : Blk) : Prop := b.length ≤ 140737488351232 ∧ (g = none → b = []) ∧ ∀ k, g = some k → n0 ≤ k ∧ gi ≠ some k ∧ ∃ s, w.heap[k]? = some (.cells (u8s b ++ s).toArray 5 (0, 0))
section
variable {w0 w w' : World} {S : List Nat} {es : List Ent} {n0 : Nat} {gi gi' g : Option Nat} {b : Blk}
theorem Ownd.row {i j : Nat} {s cs : List Value} {T : TypeId} (H : Hp w0 w S es) (he : es[i]? = some (g, 5, u8s b ++ s)) (hj : es[j]? = some (gi, T, cs)) (hij : i ≠ j) (hS : ∀ k ∈ S, n0 ≤ k) (h0 : n0 ≤ w0.heap.size) (hb : b.length ≤ 140737488351232) : Ownd w n0 gi g b := by
  refine ⟨hb, fun e => ?_, fun k e => ?_⟩
  · subst e
    have := H.none_ he
    have h2 : (u8s b).length = 0 := by rw [(List.append_eq_nil_iff.1 this).1]; rfl
    rw [u8s_length] at h2
    exact List.eq_nil_of_length_eq_zero h2
  · subst e
    refine ⟨?_, fun e => ?_, s, H.at he⟩
    · rcases H.place he with h | h
      · exact hS k h
      · omega
    · subst e
      exact H.ne he hj hij rfl
theorem Ownd.to (h : Ownd w n0 gi g b) (H : Hp w w' S es) (hk : ∀ k, n0 ≤ k → gi ≠ some k → k < w.heap.size → k ∉ S ∧ gi' ≠ some k) : Ownd w' n0 gi' g b := by
  refine ⟨h.1, h.2.1, fun k e => ?_⟩
  obtain ⟨h1, h2, s, h3⟩ := h.2.2 k e
  have hl : k < w.heap.size := (Array.getElem?_eq_some_iff.1 h3).1
  obtain ⟨h4, h5⟩ := hk k h1 h2 hl
  exact ⟨h1, h5, s, by rw [H.frame k hl h4]; exact h3⟩
theorem Ownd.bs (h : Ownd w n0 gi g b) : Bs w (fun x => n0 ≤ x ∧ gi ≠ some x) (hd g) b := by
  cases g with
  | none => rw [h.2.1 rfl]; exact Bs.none _ _
  | some k =>
    obtain ⟨h1, h2, s, h3⟩ := h.2.2 k rfl
    refine ⟨⟨u8s_length1 b, fun a ha j u hu => ?_, fun e => (by cases e)⟩, fun _ p hp => ?_, h.1⟩
    · cases ha
      have hj := (List.getElem?_eq_some_iff.1 hu).1
      show w.cell? ((⟨k, 0, none⟩ : Addr).add j) = some u
      rw [addn, Nat.zero_add]
      simp [World.cell?, h3, hu, List.getElem?_append_left hj]
    · cases hp
      exact ⟨h1, h2⟩
end
def NtW (w : World) (n0 : Nat) (gi : Option Nat) (p : List Value) (n : Nt) : Prop := ∃ g1 c1 g2 c2, p = [.int .i64 n.kind, .int .i64 n.group, .int .i64 n.b.r, .int .i64 n.b.n, .int .i64 n.vote.slot, .int .i64 n.vote.b.r, .int .i64 n.vote.b.n, .slice (hd g1) n.vote.val.length c1, .int .i64 n.entry.slot, .slice (hd g2) n.entry.val.length c2, .int .i64 n.right.g, strV n.right.key, .int .i64 n.right.lease, .int .i64 n.right.net, .int .i64 n.client, .int .i64 n.seq] ∧ Ownd w n0 gi g1 n.vote.val ∧ Ownd w n0 gi g2 n.entry.val
section
variable {w0 w w' : World} {S : List Nat} {es : List Ent} {n0 : Nat} {gi gi' g : Option Nat} {p : List Value} {n : Nt}
theorem NtW.to (h : NtW w n0 gi p n) (H : Hp w w' S es) (hk : ∀ k, n0 ≤ k → gi ≠ some k → k < w.heap.size → k ∉ S ∧ gi' ≠ some k) : NtW w' n0 gi' p n := by
  obtain ⟨g1, c1, g2, c2, h1, h2, h3⟩ := h
  exact ⟨g1, c1, g2, c2, h1, h2.to H hk, h3.to H hk⟩
theorem NtW.nt (h : NtW w n0 gi p n) : NtR w (fun x => n0 ≤ x ∧ gi ≠ some x) p n := by
  obtain ⟨g1, c1, g2, c2, h1, h2, h3⟩ := h
  exact ⟨_, c1, _, c2, h1, h2.bs, h3.bs⟩
end
end Go.Proofs.YtjoeklkmnfaabaaGreat
