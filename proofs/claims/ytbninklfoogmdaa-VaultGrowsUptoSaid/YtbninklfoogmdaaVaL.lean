/- Walks of layer 2, printed by wip/gen/codec.py. -/
import Derived.Test.YtbninklfoogmdaaNrm
import Derived.Test.YtbninklfoogmdaaVaK
namespace Go.Proofs.Ytbninklfoogmdaa
open Go Go.RowKit
set_option linter.unusedVariables false
attribute [local irreducible] Still Ops Does Cd
set_option maxRecDepth 100000 in
set_option maxHeartbeats 32000000 in
theorem spent_v (gb : Nat) (b : Bo) (A1 : Option Addr) (k1 : Nat) (A2 : Option Addr) (k2 : Nat) (A3 : Option Addr) (k3 : Nat) (n : Nt) (B1 : Option Addr) (j1 : Nat) (B2 : Option Addr) (j2 : Nat) (N : Nat) (w0 : World) (hrow : w0.heap[gb]? = some (.cells [.slice A1 b.groups.length k1, .slice A2 b.rights.length k2, .slice A3 b.last.length k3].toArray 28 (0, 0))) (ok : Nat → Prop) (hok : ¬ ok gb) (hb1 : Sl (SvR w0 ok) 6 w0 ok A1 b.groups) (hb2 : Sl RtR 4 w0 ok A2 b.rights) (hb3 : Sl MkR 7 w0 ok A3 b.last) (hg : Good b N) (hN : N ≤ 900000000000) :
    Does Try.prog 9 #[.pointer (some ⟨gb, 0, none⟩), .agg [.int .i64 n.kind, .int .i64 n.group, .int .i64 n.b.r, .int .i64 n.b.n, .int .i64 n.vote.slot, .int .i64 n.vote.b.r, .int .i64 n.vote.b.n, .slice B1 n.vote.val.length j1, .int .i64 n.entry.slot, .slice B2 n.entry.val.length j2, .int .i64 n.right.g, strV n.right.key, .int .i64 n.right.lease, .int .i64 n.right.net, .int .i64 n.client, .int .i64 n.seq].toArray] w0 (fun r w' => (mayR n.right → r = .bool true ∧ ∃ cs', Hp w0 w' [gb] [((some gb, 28, cs') : Ent)] ∧ BoR w' (up ok w0.heap.size) cs' { b with rights := putRt b.rights n.right, last := spend b.last n.client n.seq }) ∧ (¬ mayR n.right → r = .bool false ∧ Hp w0 w' [gb] [])) := by
  refine does_of Try.func9 Try.ntmps9 rfl ?_
  refine nR98 ?_
  have H := Hp.old hrow
  have hks := up_k (n := w0.heap.size) (ok := ok) (S := [gb]) fun x hx hg => hok (by rw [← List.mem_singleton.1 hg]; exact hx)
  have hml := mks_len hg.mks
  have hrl := hg.few
  obtain ⟨pm, hpm, hrm, ham, hm2⟩ := id hb3
  have hplen := hm2.len
  have hon := hm2.ones fun _ _ h => h.ones
  refine run_seq ?_
  refine run_region ?_
  refine ops_box rfl rfl H ?_
  intro w1 g1 H1 hg1
  refine ops_val (ex_assign rfl) ?_
  refine ops_nil ?_
  refine nR98 ?_
  refine run_seq ?_
  refine run_mixZ 11 [(true, 0), (true, 1), (true, 2), (true, 3), (true, 4), (true, 5), (false, 6), (true, 7), (true, 8), (true, 9), (true, 10), (false, 11)] H1 [0, 1] mixed (by decide) (by kernel_rfl) ?_
  rintro w2 hw2
  have H2 := Hp.drew H1; rw [← hw2] at H2
  refine mixz_p rfl ?_
  refine mix1_val (fun wz hz => ex_move rfl) ?_
  refine mixz_p rfl ?_
  refine mix1_val (fun wz hz => ex_nilCheck rfl) ?_
  refine mixz_p rfl ?_
  refine mix1_val (fun wz hz => ex_fieldAddr fl28_1 rfl) ?_
  refine mixz_p rfl ?_
  refine mix1_val (fun wz hz => ex_load ty25 rfl (hz.cell (i := 0) rfl rfl)) ?_
  refine nZ98 ?_
  refine mixz_p rfl ?_
  refine mix1_val (fun wz hz => ex_fieldAddr fl48_5 rfl) ?_
  refine mixz_p rfl ?_
  refine mix1_val (fun wz hz => ex_loadN ty46 rfl (vs := [.int .i64 n.right.g, strV n.right.key, .int .i64 n.right.lease, .int .i64 n.right.net]) rfl (hz.cellsR (i := 1) rfl rfl)) ?_
  refine mixz_o rfl ?_
  have hnb := Hp.fresh H2
  have hszj := H2.size
  refine ops_call (ex_call gf13 rfl) (put_l n.right A2 k2 b.rights (up ok w0.heap.size) _ (hb2.toR H2 hks) (by omega) hg.rts) ?_
  rintro r w3 ⟨hyes, hno, Hd⟩
  have H3 := H2.callN Hd
  by_cases hmay : mayR n.right
  · obtain ⟨A9, k9, rfl, hS9⟩ := hyes hmay
    refine ops_nil ?_
    refine ⟨fun hne => H3.pick [0, 1] (by decide), ?_⟩
    refine mixz_p rfl ?_
    refine mix1_val (fun wz hz => ex_move rfl) ?_
    refine mixz_p rfl ?_
    refine mix1_val (fun wz hz => ex_extract rfl rfl) ?_
    refine nZ98 ?_
    refine mixz_p rfl ?_
    refine mix1_val (fun wz hz => ex_extract rfl rfl) ?_
    refine mixz_p rfl ?_
    refine mix1_val (fun wz hz => ex_assign rfl) ?_
    refine mixz_o rfl ?_
    refine ops_val (ex_assign rfl) ?_
    refine ops_nil ?_
    refine ⟨fun hne => absurd rfl hne, ?_⟩
    refine nZ98 ?_
    refine mixz_nil ?_
    refine nR98 ?_
    refine run_seq ?_
    refine run_seq ?_
    refine run_region ?_
    refine ops_val (ex_move rfl) ?_
    refine ops_false (ex_neq rfl rfl) (by decide) ?_
    refine ops_nil ?_
    refine nR98 ?_
    refine run_cond_false rfl ?_
    refine run_skip ?_
    refine run_seq ?_
    refine run_region ?_
    refine ops_val (ex_move rfl) ?_
    refine ops_val (ex_move rfl) ?_
    refine ops_val (ex_nilCheck rfl) ?_
    refine ops_val (ex_fieldAddr fl28_1 rfl) ?_
    refine nO98 ?_
    have HB := H3
    replace H3 := HB.here
    refine ops_store1 ty25 H3 0 rfl rfl rfl rfl (by first | (simp; done) | simp [putAt]) rfl ?_
    intro w4 H4
    refine ops_nil ?_
    refine nR98 ?_
    refine run_seq ?_
    refine run_seq ?_
    refine run_region ?_
    refine ops_val (ex_fieldAddr fl48_6 rfl) ?_
    refine ops_val (ex_load ty3 rfl (H4.cell (i := 1) rfl rfl)) ?_
    refine ops_test (ex_lss rfl rfl) (fun hp29 => ?_) (fun hp29 => ?_)
    · skip
      refine ops_val (ex_move rfl) ?_
      refine nO98 ?_
      refine ops_no rfl ?_
      refine ops_no rfl ?_
      refine nO98 ?_
      refine ops_no rfl ?_
      refine ops_val (ex_pick_t rfl rfl) ?_
      refine ops_val (ex_move rfl) ?_
      refine nO98 ?_
      refine ops_no rfl ?_
      refine ops_no rfl ?_
      refine nO98 ?_
      refine ops_no rfl ?_
      refine ops_val (ex_pick_t rfl rfl) ?_
      refine ops_val (ex_move rfl) ?_
      refine nO98 ?_
      refine ops_no rfl ?_
      refine ops_no rfl ?_
      refine nO98 ?_
      refine ops_no rfl ?_
      refine ops_val (ex_pick_t rfl rfl) ?_
      refine ops_nil ?_
      refine nR98 ?_
      refine run_cond_true rfl ?_
      refine run_seq ?_
      refine run_region ?_
      refine ops_val (ex_assign rfl) ?_
      refine ops_nil ?_
      refine nR98 ?_
      refine run_ret ?_
      refine fin_ret1 rfl rfl ?_
      have HW := HB.all H4
      refine ⟨fun _ => ⟨rfl, _, HW.pick [0] (by decide), A1, k1, A9, k9, A3, k3, by rw [spend_no (by omega)]; rfl, hb1.toS HW hks, hS9.toR H4 (fun x hx _ => ⟨hnb x hx, .inr (by omega)⟩), ?_⟩, fun h => absurd hmay h⟩
      rw [spend_no (by omega)]
      exact hb3.toM HW hks
    · skip
      refine ops_val (ex_move rfl) ?_
      refine nO98 ?_
      refine ops_yes rfl ?_
      refine ops_val (ex_fieldAddr fl48_6 rfl) ?_
      refine ops_yes rfl ?_
      refine ops_val (ex_load ty3 rfl (H4.cell (i := 1) rfl rfl)) ?_
      refine nO98 ?_
      refine ops_yes rfl ?_
      refine ops_test (ex_gtr rfl rfl) (fun hp33 => ?_) (fun hp33 => ?_)
      · skip
        refine ops_val (ex_pick_f rfl rfl) ?_
        refine ops_val (ex_move rfl) ?_
        refine nO98 ?_
        refine ops_no rfl ?_
        refine ops_no rfl ?_
        refine nO98 ?_
        refine ops_no rfl ?_
        refine ops_val (ex_pick_t rfl rfl) ?_
        refine ops_val (ex_move rfl) ?_
        refine nO98 ?_
        refine ops_no rfl ?_
        refine ops_no rfl ?_
        refine nO98 ?_
        refine ops_no rfl ?_
        refine ops_val (ex_pick_t rfl rfl) ?_
        refine ops_nil ?_
        refine nR98 ?_
        refine run_cond_true rfl ?_
        refine run_seq ?_
        refine run_region ?_
        refine ops_val (ex_assign rfl) ?_
        refine ops_nil ?_
        refine nR98 ?_
        refine run_ret ?_
        refine fin_ret1 rfl rfl ?_
        have HW := HB.all H4
        refine ⟨fun _ => ⟨rfl, _, HW.pick [0] (by decide), A1, k1, A9, k9, A3, k3, by rw [spend_no (by omega)]; rfl, hb1.toS HW hks, hS9.toR H4 (fun x hx _ => ⟨hnb x hx, .inr (by omega)⟩), ?_⟩, fun h => absurd hmay h⟩
        rw [spend_no (by omega)]
        exact hb3.toM HW hks
      · skip
        refine ops_val (ex_pick_f rfl rfl) ?_
        refine ops_val (ex_move rfl) ?_
        refine nO98 ?_
        refine ops_yes rfl ?_
        refine ops_val (ex_fieldAddr fl48_7 rfl) ?_
        refine ops_yes rfl ?_
        refine ops_val (ex_load ty3 rfl (H4.cell (i := 1) rfl rfl)) ?_
        refine nO98 ?_
        refine ops_yes rfl ?_
        refine ops_test (ex_lss rfl rfl) (fun hp38 => ?_) (fun hp38 => ?_)
        · skip
          refine ops_val (ex_pick_f rfl rfl) ?_
          refine ops_val (ex_move rfl) ?_
          refine nO98 ?_
          refine ops_no rfl ?_
          refine ops_no rfl ?_
          refine nO98 ?_
          refine ops_no rfl ?_
          refine ops_val (ex_pick_t rfl rfl) ?_
          refine ops_nil ?_
          refine nR98 ?_
          refine run_cond_true rfl ?_
          refine run_seq ?_
          refine run_region ?_
          refine ops_val (ex_assign rfl) ?_
          refine ops_nil ?_
          refine nR98 ?_
          refine run_ret ?_
          refine fin_ret1 rfl rfl ?_
          have HW := HB.all H4
          refine ⟨fun _ => ⟨rfl, _, HW.pick [0] (by decide), A1, k1, A9, k9, A3, k3, by rw [spend_no (by omega)]; rfl, hb1.toS HW hks, hS9.toR H4 (fun x hx _ => ⟨hnb x hx, .inr (by omega)⟩), ?_⟩, fun h => absurd hmay h⟩
          rw [spend_no (by omega)]
          exact hb3.toM HW hks
        · skip
          refine ops_val (ex_pick_f rfl rfl) ?_
          refine ops_val (ex_move rfl) ?_
          refine nO98 ?_
          refine ops_yes rfl ?_
          refine ops_val (ex_fieldAddr fl48_7 rfl) ?_
          refine ops_yes rfl ?_
          refine ops_val (ex_load ty3 rfl (H4.cell (i := 1) rfl rfl)) ?_
          refine nO98 ?_
          refine ops_yes rfl ?_
          refine ops_test (ex_gtr rfl rfl) (fun hp43 => ?_) (fun hp43 => ?_)
          · skip
            refine ops_val (ex_pick_f rfl rfl) ?_
            refine ops_nil ?_
            refine nR98 ?_
            refine run_cond_true rfl ?_
            refine run_seq ?_
            refine run_region ?_
            refine ops_val (ex_assign rfl) ?_
            refine ops_nil ?_
            refine nR98 ?_
            refine run_ret ?_
            refine fin_ret1 rfl rfl ?_
            have HW := HB.all H4
            refine ⟨fun _ => ⟨rfl, _, HW.pick [0] (by decide), A1, k1, A9, k9, A3, k3, by rw [spend_no (by omega)]; rfl, hb1.toS HW hks, hS9.toR H4 (fun x hx _ => ⟨hnb x hx, .inr (by omega)⟩), ?_⟩, fun h => absurd hmay h⟩
            rw [spend_no (by omega)]
            exact hb3.toM HW hks
          · skip
            refine ops_val (ex_pick_f rfl rfl) ?_
            refine ops_nil ?_
            refine nR98 ?_
            refine run_cond_false rfl ?_
            refine run_skip ?_
            refine run_seq ?_
            refine run_seq ?_
            refine run_mixT 12 (.p 0 (.p 1 (.p 2 (.p 3 (.p 4 (.p 5 (.two 6 (.p 7 (.p 8 (.p 9 (.o 10 (.o 11 (.o 12 .nil)))))) 10 (.o 6 (.p 7 (.p 8 (.p 9 (.o 11 (.o 12 .nil))))))))))))) H4 [0, 1] mixed (by decide) (by kernel_rfl) ?_
            rintro w5 hw5
            have H5 := Hp.drew H4; rw [← hw5] at H5
            refine mixt_p rfl ?_
            refine mix1_val (fun wz hz => ex_move rfl) ?_
            refine mixt_p rfl ?_
            refine mix1_val (fun wz hz => ex_nilCheck rfl) ?_
            refine mixt_p rfl ?_
            refine mix1_val (fun wz hz => ex_fieldAddr fl28_2 rfl) ?_
            refine mixt_p rfl ?_
            refine mix1_val (fun wz hz => ex_load ty26 rfl (hz.cell (i := 0) rfl rfl)) ?_
            change MixT _ _ _ _ _ _ [_, _, _, _, _, _, _, _, _, _, _, _, _, _, _, _, _, _, _, _, _, _, _, _, _, _, _, _, _, _, _, _, _, _, _, _, _, _, _, _, _, _, _, _, _, _, _, _, _, _, _, _, _, _, _, _, _, _, _, _, _, _, _, _, _, _, _, _, _, _, _, _, _, _, _, _, _, _, _, _, _, _, _, _, _, _, _, _, _, _, _, _, _, _, _, _, _, _] _
            refine mixt_p rfl ?_
            refine mix1_val (fun wz hz => ex_fieldAddr fl48_6 rfl) ?_
            refine mixt_p rfl ?_
            refine mix1_val (fun wz hz => ex_load ty3 rfl (hz.cell (i := 1) rfl rfl)) ?_
            refine mixt_two ?_ ?_
            · skip
              refine mixt_o rfl ?_
              refine ops_call (ex_call gf14 rfl) (find_s A3 k3 b.last n.client (up ok w0.heap.size) _ (hb3.toM (HB.all H5) hks) (by omega) hg.mks) ?_
              rintro _ w6 ⟨mq, fq, rfl, hyq, hnq, Hd⟩
              have H6 := H5.callN Hd
              cases fq
              · skip
                refine ops_nil ?_
                refine ⟨fun hne => H6.pick [0, 1] (by decide), ?_⟩
                refine mixt_p rfl ?_
                refine mix1_val (fun wz hz => ex_move rfl) ?_
                refine mixt_p rfl ?_
                refine mix1_val (fun wz hz => ex_extract rfl rfl) ?_
                change MixT _ _ _ _ _ _ [_, _, _, _, _, _, _, _, _, _, _, _, _, _, _, _, _, _, _, _, _, _, _, _, _, _, _, _, _, _, _, _, _, _, _, _, _, _, _, _, _, _, _, _, _, _, _, _, _, _, _, _, _, _, _, _, _, _, _, _, _, _, _, _, _, _, _, _, _, _, _, _, _, _, _, _, _, _, _, _, _, _, _, _, _, _, _, _, _, _, _, _, _, _, _, _, _, _] _
                refine mixt_p rfl ?_
                refine mix1_val (fun wz hz => ex_extract rfl rfl) ?_
                refine mixt_o rfl ?_
                refine ops_alloc ty62 H6 ?_
                intro w7 g7 H7 hg7
                refine ops_nil ?_
                refine ⟨fun hne => H7.pick [0, 1] (by decide), ?_⟩
                change MixT _ _ _ _ _ _ [_, _, _, _, _, _, _, _, _, _, _, _, _, _, _, _, _, _, _, _, _, _, _, _, _, _, _, _, _, _, _, _, _, _, _, _, _, _, _, _, _, _, _, _, _, _, _, _, _, _, _, _, _, _, _, _, _, _, _, _, _, _, _, _, _, _, _, _, _, _, _, _, _, _, _, _, _, _, _, _, _, _, _, _, _, _, _, _, _, _, _, _, _, _, _, _, _, _] _
                refine mixt_o rfl ?_
                refine ops_store ty62 H7 2 rfl rfl rfl rfl rfl (by first | decide | (simp; done) | simp [putAt]) rfl ?_
                intro w8 H8
                refine ops_nil ?_
                refine ⟨fun hne => H8.pick [0, 1] (by decide), ?_⟩
                change MixT _ _ _ _ _ _ [_, _, _, _, _, _, _, _, _, _, _, _, _, _, _, _, _, _, _, _, _, _, _, _, _, _, _, _, _, _, _, _, _, _, _, _, _, _, _, _, _, _, _, _, _, _, _, _, _, _, _, _, _, _, _, _, _, _, _, _, _, _, _, _, _, _, _, _, _, _, _, _, _, _, _, _, _, _, _, _, _, _, _, _, _, _, _, _, _, _, _, _, _, _, _, _, _, _] _
                refine mixt_o rfl ?_
                refine ops_val (ex_assign rfl) ?_
                refine ops_nil ?_
                refine ⟨fun hne => absurd rfl hne, ?_⟩
                change MixT _ _ _ _ _ _ [_, _, _, _, _, _, _, _, _, _, _, _, _, _, _, _, _, _, _, _, _, _, _, _, _, _, _, _, _, _, _, _, _, _, _, _, _, _, _, _, _, _, _, _, _, _, _, _, _, _, _, _, _, _, _, _, _, _, _, _, _, _, _, _, _, _, _, _, _, _, _, _, _, _, _, _, _, _, _, _, _, _, _, _, _, _, _, _, _, _, _, _, _, _, _, _, _, _] _
                refine mixt_nil ?_
                refine nR98 ?_
                refine run_seq ?_
                refine run_region ?_
                refine ops_val (ex_move rfl) ?_
                refine ops_val (ex_move rfl) ?_
                refine nO98 ?_
                refine ops_no rfl ?_
                refine ops_no rfl ?_
                refine nO98 ?_
                refine ops_no rfl ?_
                refine ops_no rfl ?_
                refine nO98 ?_
                refine ops_no rfl ?_
                refine ops_val (ex_pick_f rfl rfl) ?_
                refine ops_nil ?_
                refine nR98 ?_
                refine run_cond_false rfl ?_
                refine run_skip ?_
                refine run_seq ?_
                refine run_region ?_
                refine ops_val (ex_move rfl) ?_
                refine ops_val (ex_nilCheck rfl) ?_
                refine ops_val (ex_fieldAddr fl28_2 rfl) ?_
                refine ops_val (ex_load ty26 rfl (H8.cell (i := 0) rfl rfl)) ?_
                refine nO98 ?_
                refine ops_call (ex_call gf16 rfl) (cloneM A3 b.last.length k3 pm.flatten _ (hrm.move (by decide) ham (HB.all H8) hks).1 (ones_flatten hon) (by omega)) ?_
                rintro _ w9 ⟨gv, cv, sv, rfl, hmv, hcv, hgv0, Hc⟩
                have H9 := H8.call0 Hc
                refine ops_val (ex_makeFunc rfl rfl) ?_
                refine ops_call (ex_call gf15 rfl) (deleteM gv cv b.last.length pm hplen sv 17 _ (mkIs n.client) _ (H9.pick [3] (by decide)).here hpm hon (by omega) (by omega) hcv (prd_spent hm2 (H9.at (i := 1) rfl) rfl) (row_not H9 (i := 1) (is := [3]) rfl (by decide))) ?_
                rintro _ w10 ⟨sv2, rfl, hl2, Hd⟩
                have H10 := (H9.callr [3] rfl Hd).pick [0, 1, 2, 4] (by decide)
                have hmf := hm2.filter (f := fun p => !mkIs n.client p) (g := fun x => !decide (x.client = n.client)) (fun p x h => mkIs_neq h)
                have hmfl := hmf.len
                have hpf : Pl 7 (pm.filter fun p => !mkIs n.client p) := hpm.sub fun x hx => (List.mem_filter.1 hx).1
                have hfl3 : (pm.filter fun p => !mkIs n.client p).length ≤ pm.length := List.length_filter_le _ _
                have honf : ∀ p ∈ (pm.filter fun p => !mkIs n.client p), p.all (·.oneCell') = true := fun x hx => hon x (List.mem_filter.1 hx).1
                have HC := H10
                refine ops_val (ex_assign rfl) ?_
                refine ops_nil ?_
                refine nR98 ?_
                refine run_seq ?_
                refine run_region ?_
                refine ops_val (ex_assign rfl) ?_
                refine ops_nil ?_
                refine nR98 ?_
                refine run_seq ?_
                refine run_block ?_
                refine run_loop (fun nQ lQ w => ∃ (i : Nat) (y : Int), (pm.filter fun p => !mkIs n.client p).length - i = nQ ∧ Fits [some (.pointer (some ⟨gb, 0, none⟩)), none, none, some (.pointer (some ⟨g1, 0, none⟩)), none, none, none, none, none, some (.slice (hd gv) (pm.filter fun p => !mkIs n.client p).length cv), some (.int .i64 y), none, none, none, none, none, none, none, none, none, none, none, none, none, none, none, none, none, none, none, none, none, none, none, none, none, none, none, none, none, none, none, none, none, none, none, none, none, none, none, none, none, none, none, none, none, none, none, none, none, none, none, none, none, none, none, none, none, none, none, none, none, none, none, none, none, none, none, none, none, none, none, none, none, none, none, none, none, none, none, none, none, none, none, none, none, none, none] lQ ∧ y = (i : Int) ∧ i ≤ (pm.filter fun p => !mkIs n.client p).length ∧ (∀ (k : Nat) (m : Mk), k < i → (b.last.filter fun x => !decide (x.client = n.client))[k]? = some m → m.client < n.client) ∧ Hp w10 w [] []) ((pm.filter fun p => !mkIs n.client p).length) ?_ ?_
                · exact ⟨0, _, rfl, (fs (fn (fn (fs (fn (fn (fn (fn (fn (fs (fs (fn (fn (fn (fn (fn (fn (fn (fn (fn (fn (fn (fn (fn (fn (fn (fn (fn (fn (fn (fn (fn (fn (fn (fn (fn (fn (fn (fn (fn (fn (fn (fn (fn (fn (fn (fn (fn (fn (fn (fn (fn (fn (fn (fn (fn (fn (fn (fn (fn (fn (fn (fn (fn (fn (fn (fn (fn (fn (fn (fn (fn (fn (fn (fn (fn (fn (fn (fn (fn (fn (fn (fn (fn (fn (fn (fn (fn (fn (fn (fn (fn (fn (fn (fn (fn (fn (fn f0)))))))))))))))))))))))))))))))))))))))))))))))))))))))))))))))))))))))))))))))))))))))))))))))))), rfl, Nat.zero_le _, (fun k m h => by omega), Hp.refl _⟩
                · rintro nQ lQ w11 ⟨i, y, rfl, hfit, rfl, hi, hlo, H11⟩
                  obtain ⟨j, rfl⟩ := hfit.open
                  refine nR98 ?_
                  clear hfit
                  refine run_seq ?_
                  refine run_seq ?_
                  refine run_still mixed (by kernel_rfl) ?_
                  rintro w12 hw12
                  have H12 := Hp.drew H11; rw [← hw12] at H12
                  refine still_val (ex_move rfl) ?_
                  refine still_val (ex_move rfl) ?_
                  refine still_val (ex_len_slice Try.underlying26 rfl) ?_
                  refine still_test (ex_lss rfl rfl) (fun hp73 => ?_) (fun hp73 => ?_)
                  · have hil : i < (pm.filter fun p => !mkIs n.client p).length := by omega
                    obtain ⟨p1, hp1⟩ := get_of hil
                    obtain ⟨x, hx, hR⟩ := hmf.getL hp1
                    unfold MkR at hR
                    subst hR
                    have hc0 : ((pm.filter fun p => !mkIs n.client p).flatten ++ sv2)[0 + i * 7 + 0]? = some (.int .i64 x.client) := by
                      have h1 := hpf.get hp1 (j := 0) (u := .int .i64 x.client) rfl
                      show (_ ++ _)[0 + i * 7 + 0]? = _
                      rw [Nat.zero_add, List.getElem?_append_left (lt_of_get h1)]; exact h1
                    obtain ⟨gz, rfl⟩ := own_some HC (i := 3) rfl (by have := lt_of_get hc0; omega)
                    refine still_val (ex_move rfl) ?_
                    refine nS98 ?_
                    refine still_yes rfl ?_
                    refine still_val (ex_move rfl) ?_
                    refine still_yes rfl ?_
                    refine still_val (ex_move rfl) ?_
                    refine nS98 ?_
                    refine still_yes rfl ?_
                    refine still_val (ex_idxN Try.underlying26 ty62 rfl rfl rfl hil) ?_
                    refine still_yes rfl ?_
                    refine still_val (ex_fieldAddr fl62_0 rfl) ?_
                    refine nS98 ?_
                    refine still_yes rfl ?_
                    refine still_val (ex_load ty3 rfl ((HC.callN H12).cell (i := 3) rfl hc0)) ?_
                    refine still_yes rfl ?_
                    refine still_val (ex_fieldAddr fl48_6 rfl) ?_
                    refine nS98 ?_
                    refine still_yes rfl ?_
                    refine still_val (ex_load ty3 rfl ((HC.callN H12).cell (i := 1) rfl rfl)) ?_
                    refine still_yes rfl ?_
                    refine still_test (ex_lss rfl rfl) (fun hp82 => ?_) (fun hp82 => ?_)
                    · skip
                      refine still_val (ex_pick_t rfl rfl) ?_
                      refine still_nil ?_
                      refine nR98 ?_
                      refine run_cond_true rfl ?_
                      refine run_skip ?_
                      refine run_block ?_
                      refine run_region ?_
                      refine ops_val (ex_move rfl) ?_
                      refine ops_val (ex_add rfl rfl (IntWalk.i64_in _ (by omega))) ?_
                      refine ops_val (ex_assign rfl) ?_
                      refine ops_nil ?_
                      refine nR98 ?_
                      refine run_nil (blk_normal ?_)
                      refine run_nil (rnd_normal ?_)
                      exact ⟨(pm.filter fun p => !mkIs n.client p).length - (i + 1), by omega, i + 1, _, rfl, (fs (fn (fn (fs (fn (fn (fn (fn (fn (fs (fs (fn (fn (fn (fn (fn (fn (fn (fn (fn (fn (fn (fn (fn (fn (fn (fn (fn (fn (fn (fn (fn (fn (fn (fn (fn (fn (fn (fn (fn (fn (fn (fn (fn (fn (fn (fn (fn (fn (fn (fn (fn (fn (fn (fn (fn (fn (fn (fn (fn (fn (fn (fn (fn (fn (fn (fn (fn (fn (fn (fn (fn (fn (fn (fn (fn (fn (fn (fn (fn (fn (fn (fn (fn (fn (fn (fn (fn (fn (fn (fn (fn (fn (fn (fn (fn (fn (fn f0)))))))))))))))))))))))))))))))))))))))))))))))))))))))))))))))))))))))))))))))))))))))))))))))))), by omega, by omega, fun k m hk hm => by
                        rcases Nat.lt_or_eq_of_le (show k ≤ i by omega) with h | rfl
                        · exact hlo k m h hm
                        · rw [hx] at hm
                          simp only [Option.some.injEq] at hm
                          subst hm; exact hp82, H12⟩
                    · skip
                      refine still_val (ex_pick_t rfl rfl) ?_
                      refine still_nil ?_
                      refine nR98 ?_
                      refine run_cond_false rfl ?_
                      refine run_exit ?_
                      refine rnd_exit ?_
                      refine blk_exit ?_
                      refine run_seq ?_
                      refine run_region ?_
                      replace H12 := HC.callN H12
                      refine ops_val (ex_move rfl) ?_
                      refine ops_val (ex_move rfl) ?_
                      refine ops_val (ex_move rfl) ?_
                      refine ops_val (ex_fieldAddr fl48_6 rfl) ?_
                      refine nO98 ?_
                      refine ops_val (ex_load ty3 rfl (H12.cell (i := 1) rfl rfl)) ?_
                      refine ops_val (ex_fieldAddr fl48_7 rfl) ?_
                      refine ops_val (ex_load ty3 rfl (H12.cell (i := 1) rfl rfl)) ?_
                      refine ops_val (ex_build ty62 pl62 rfl rfl) ?_
                      refine nO98 ?_
                      refine ops_buildSlice Try.underlying26 ty62 H12 rfl (by decide) rfl ?_
                      intro w13 g13 H13 hg13
                      refine ops_call (ex_call gf18 rfl) (insertM _ cv i _ (pm.filter fun p => !mkIs n.client p).length (pm.filter fun p => !mkIs n.client p) rfl (mkC ⟨n.client, n.seq⟩) sv2 _ (H13.pick [3] (by decide)).here hpf honf (by omega) (by rw [hl2]; exact hcv) hgv0 (by omega) (H13.at (i := 4) rfl) rfl rfl (row_not H13 (i := 4) (is := [3]) rfl (by decide)) (by omega)) ?_
                      rintro _ w14 ⟨gw, cw, sw, rfl, hnw, hcw, hgw, Hd⟩
                      have H14 := (H13.callr [3] rfl Hd).pick [0, 1, 2, 5] (by decide)
                      refine ops_val (ex_nilCheck rfl) ?_
                      refine ops_val (ex_fieldAddr fl28_2 rfl) ?_
                      refine nO98 ?_
                      refine ops_store1 ty26 H14 0 rfl rfl rfl rfl (by first | (simp; done) | simp [putAt]) rfl ?_
                      intro w15 H15
                      refine ops_nil ?_
                      refine nR98 ?_
                      refine run_seq ?_
                      refine run_region ?_
                      refine ops_val (ex_assign rfl) ?_
                      refine ops_nil ?_
                      refine nR98 ?_
                      refine run_ret ?_
                      refine fin_ret1 rfl rfl ?_
                      have HW := HB.all H15
                      have hput := putMk_del (v := ⟨n.client, n.seq⟩) (i := i) (mks_rise hg.mks).2 (by rw [← hmfl]; omega) hlo (.inr ⟨x, hx, hp82⟩)
                      have hsp : spend b.last n.client n.seq = putMk b.last ⟨n.client, n.seq⟩ := spend_new (by omega) (hnq rfl)
                      rw [← hput] at hsp
                      have hln : ((b.last.filter fun x => !decide (x.client = n.client)).take i ++ (⟨n.client, n.seq⟩ : Mk) :: (b.last.filter fun x => !decide (x.client = n.client)).drop i).length = (pm.filter fun p => !mkIs n.client p).length + 1 := by rw [List.length_append, List.length_cons, List.length_take, List.length_drop, ← hmfl]; omega
                      refine ⟨fun _ => ⟨rfl, _, HW.pick [0] (by decide), A1, k1, A9, k9, hd gw, cw, by rw [hsp, hln]; rfl, hb1.toS HW hks, hS9.toR H15 (fun x hx _ => ⟨hnb x hx, .inr (by omega)⟩), ?_⟩, fun h => absurd hmay h⟩
                      rw [hsp]
                      exact Sl.row HW (i := 3) rfl ((hpf.sub fun x hx => List.mem_of_mem_take hx).app fun x hx => by
                        rcases List.mem_cons.1 hx with rfl | hx
                        · rfl
                        · exact hpf x (List.mem_of_mem_drop hx)) (by decide) ((hmf.take i).app ⟨rfl, hmf.drop i⟩) (fun b hb => row_new (ok := ok) HW (i := 3) rfl (fun c hc => by rw [List.mem_singleton.1 hc]; exact fun e => HW.ne (i := 3) (j := 0) (g := gb) (by rw [e]; rfl) rfl (by decide) rfl) b hb)
                  · skip
                    refine still_val (ex_move rfl) ?_
                    refine nS98 ?_
                    refine still_no rfl ?_
                    refine still_no rfl ?_
                    refine nS98 ?_
                    refine still_no rfl ?_
                    refine still_no rfl ?_
                    refine nS98 ?_
                    refine still_no rfl ?_
                    refine still_no rfl ?_
                    refine nS98 ?_
                    refine still_no rfl ?_
                    refine still_no rfl ?_
                    refine still_val (ex_pick_f rfl rfl) ?_
                    refine still_nil ?_
                    refine nR98 ?_
                    refine run_cond_false rfl ?_
                    refine run_exit ?_
                    refine rnd_exit ?_
                    refine blk_exit ?_
                    refine run_seq ?_
                    refine run_region ?_
                    replace H12 := HC.callN H12
                    refine ops_val (ex_move rfl) ?_
                    refine ops_val (ex_move rfl) ?_
                    refine ops_val (ex_move rfl) ?_
                    refine ops_val (ex_fieldAddr fl48_6 rfl) ?_
                    refine nO98 ?_
                    refine ops_val (ex_load ty3 rfl (H12.cell (i := 1) rfl rfl)) ?_
                    refine ops_val (ex_fieldAddr fl48_7 rfl) ?_
                    refine ops_val (ex_load ty3 rfl (H12.cell (i := 1) rfl rfl)) ?_
                    refine ops_val (ex_build ty62 pl62 rfl rfl) ?_
                    refine nO98 ?_
                    refine ops_buildSlice Try.underlying26 ty62 H12 rfl (by decide) rfl ?_
                    intro w13 g13 H13 hg13
                    refine ops_call (ex_call gf18 rfl) (insertM _ cv i _ (pm.filter fun p => !mkIs n.client p).length (pm.filter fun p => !mkIs n.client p) rfl (mkC ⟨n.client, n.seq⟩) sv2 _ (H13.pick [3] (by decide)).here hpf honf (by omega) (by rw [hl2]; exact hcv) hgv0 (by omega) (H13.at (i := 4) rfl) rfl rfl (row_not H13 (i := 4) (is := [3]) rfl (by decide)) (by omega)) ?_
                    rintro _ w14 ⟨gw, cw, sw, rfl, hnw, hcw, hgw, Hd⟩
                    have H14 := (H13.callr [3] rfl Hd).pick [0, 1, 2, 5] (by decide)
                    refine ops_val (ex_nilCheck rfl) ?_
                    refine ops_val (ex_fieldAddr fl28_2 rfl) ?_
                    refine nO98 ?_
                    refine ops_store1 ty26 H14 0 rfl rfl rfl rfl (by first | (simp; done) | simp [putAt]) rfl ?_
                    intro w15 H15
                    refine ops_nil ?_
                    refine nR98 ?_
                    refine run_seq ?_
                    refine run_region ?_
                    refine ops_val (ex_assign rfl) ?_
                    refine ops_nil ?_
                    refine nR98 ?_
                    refine run_ret ?_
                    refine fin_ret1 rfl rfl ?_
                    have HW := HB.all H15
                    have hput := putMk_del (v := ⟨n.client, n.seq⟩) (i := i) (mks_rise hg.mks).2 (by rw [← hmfl]; omega) hlo (.inl (by rw [← hmfl]; omega))
                    have hsp : spend b.last n.client n.seq = putMk b.last ⟨n.client, n.seq⟩ := spend_new (by omega) (hnq rfl)
                    rw [← hput] at hsp
                    have hln : ((b.last.filter fun x => !decide (x.client = n.client)).take i ++ (⟨n.client, n.seq⟩ : Mk) :: (b.last.filter fun x => !decide (x.client = n.client)).drop i).length = (pm.filter fun p => !mkIs n.client p).length + 1 := by rw [List.length_append, List.length_cons, List.length_take, List.length_drop, ← hmfl]; omega
                    refine ⟨fun _ => ⟨rfl, _, HW.pick [0] (by decide), A1, k1, A9, k9, hd gw, cw, by rw [hsp, hln]; rfl, hb1.toS HW hks, hS9.toR H15 (fun x hx _ => ⟨hnb x hx, .inr (by omega)⟩), ?_⟩, fun h => absurd hmay h⟩
                    rw [hsp]
                    exact Sl.row HW (i := 3) rfl ((hpf.sub fun x hx => List.mem_of_mem_take hx).app fun x hx => by
                      rcases List.mem_cons.1 hx with rfl | hx
                      · rfl
                      · exact hpf x (List.mem_of_mem_drop hx)) (by decide) ((hmf.take i).app ⟨rfl, hmf.drop i⟩) (fun b hb => row_new (ok := ok) HW (i := 3) rfl (fun c hc => by rw [List.mem_singleton.1 hc]; exact fun e => HW.ne (i := 3) (j := 0) (g := gb) (by rw [e]; rfl) rfl (by decide) rfl) b hb)
              · skip
                refine ops_nil ?_
                refine ⟨fun hne => H6.pick [0, 1] (by decide), ?_⟩
                refine mixt_p rfl ?_
                refine mix1_val (fun wz hz => ex_move rfl) ?_
                refine mixt_p rfl ?_
                refine mix1_val (fun wz hz => ex_extract rfl rfl) ?_
                change MixT _ _ _ _ _ _ [_, _, _, _, _, _, _, _, _, _, _, _, _, _, _, _, _, _, _, _, _, _, _, _, _, _, _, _, _, _, _, _, _, _, _, _, _, _, _, _, _, _, _, _, _, _, _, _, _, _, _, _, _, _, _, _, _, _, _, _, _, _, _, _, _, _, _, _, _, _, _, _, _, _, _, _, _, _, _, _, _, _, _, _, _, _, _, _, _, _, _, _, _, _, _, _, _, _] _
                refine mixt_p rfl ?_
                refine mix1_val (fun wz hz => ex_extract rfl rfl) ?_
                refine mixt_o rfl ?_
                refine ops_alloc ty62 H6 ?_
                intro w7 g7 H7 hg7
                refine ops_nil ?_
                refine ⟨fun hne => H7.pick [0, 1] (by decide), ?_⟩
                change MixT _ _ _ _ _ _ [_, _, _, _, _, _, _, _, _, _, _, _, _, _, _, _, _, _, _, _, _, _, _, _, _, _, _, _, _, _, _, _, _, _, _, _, _, _, _, _, _, _, _, _, _, _, _, _, _, _, _, _, _, _, _, _, _, _, _, _, _, _, _, _, _, _, _, _, _, _, _, _, _, _, _, _, _, _, _, _, _, _, _, _, _, _, _, _, _, _, _, _, _, _, _, _, _, _] _
                refine mixt_o rfl ?_
                refine ops_store ty62 H7 2 rfl rfl rfl rfl rfl (by first | decide | (simp; done) | simp [putAt]) rfl ?_
                intro w8 H8
                refine ops_nil ?_
                refine ⟨fun hne => H8.pick [0, 1] (by decide), ?_⟩
                change MixT _ _ _ _ _ _ [_, _, _, _, _, _, _, _, _, _, _, _, _, _, _, _, _, _, _, _, _, _, _, _, _, _, _, _, _, _, _, _, _, _, _, _, _, _, _, _, _, _, _, _, _, _, _, _, _, _, _, _, _, _, _, _, _, _, _, _, _, _, _, _, _, _, _, _, _, _, _, _, _, _, _, _, _, _, _, _, _, _, _, _, _, _, _, _, _, _, _, _, _, _, _, _, _, _] _
                refine mixt_o rfl ?_
                refine ops_val (ex_assign rfl) ?_
                refine ops_nil ?_
                refine ⟨fun hne => absurd rfl hne, ?_⟩
                change MixT _ _ _ _ _ _ [_, _, _, _, _, _, _, _, _, _, _, _, _, _, _, _, _, _, _, _, _, _, _, _, _, _, _, _, _, _, _, _, _, _, _, _, _, _, _, _, _, _, _, _, _, _, _, _, _, _, _, _, _, _, _, _, _, _, _, _, _, _, _, _, _, _, _, _, _, _, _, _, _, _, _, _, _, _, _, _, _, _, _, _, _, _, _, _, _, _, _, _, _, _, _, _, _, _] _
                refine mixt_nil ?_
                refine nR98 ?_
                refine run_seq ?_
                refine run_region ?_
                refine ops_val (ex_move rfl) ?_
                refine ops_val (ex_move rfl) ?_
                refine nO98 ?_
                refine ops_yes rfl ?_
                refine ops_val (ex_fieldAddr fl62_1 rfl) ?_
                refine ops_yes rfl ?_
                refine ops_val (ex_load ty3 rfl (H8.cell (i := 2) rfl rfl)) ?_
                refine nO98 ?_
                refine ops_yes rfl ?_
                refine ops_val (ex_fieldAddr fl48_7 rfl) ?_
                refine ops_yes rfl ?_
                refine ops_val (ex_load ty3 rfl (H8.cell (i := 1) rfl rfl)) ?_
                refine nO98 ?_
                refine ops_yes rfl ?_
                refine ops_test (ex_geq rfl rfl) (fun hp61 => ?_) (fun hp61 => ?_)
                · skip
                  refine ops_val (ex_pick_t rfl rfl) ?_
                  refine ops_nil ?_
                  refine nR98 ?_
                  refine run_cond_true rfl ?_
                  refine run_seq ?_
                  refine run_region ?_
                  refine ops_val (ex_assign rfl) ?_
                  refine ops_nil ?_
                  refine nR98 ?_
                  refine run_ret ?_
                  refine fin_ret1 rfl rfl ?_
                  have HW := HB.all H8
                  refine ⟨fun _ => ⟨rfl, _, HW.pick [0] (by decide), A1, k1, A9, k9, A3, k3, by rw [spend_has (hyq rfl) (by omega)]; rfl, hb1.toS HW hks, hS9.toR H8 (fun x hx _ => ⟨hnb x hx, .inr (by omega)⟩), ?_⟩, fun h => absurd hmay h⟩
                  rw [spend_has (hyq rfl) (by omega)]
                  exact hb3.toM HW hks
                · skip
                  refine ops_val (ex_pick_t rfl rfl) ?_
                  refine ops_nil ?_
                  refine nR98 ?_
                  refine run_cond_false rfl ?_
                  refine run_skip ?_
                  refine run_seq ?_
                  refine run_region ?_
                  refine ops_val (ex_move rfl) ?_
                  refine ops_val (ex_nilCheck rfl) ?_
                  refine ops_val (ex_fieldAddr fl28_2 rfl) ?_
                  refine ops_val (ex_load ty26 rfl (H8.cell (i := 0) rfl rfl)) ?_
                  refine nO98 ?_
                  refine ops_call (ex_call gf16 rfl) (cloneM A3 b.last.length k3 pm.flatten _ (hrm.move (by decide) ham (HB.all H8) hks).1 (ones_flatten hon) (by omega)) ?_
                  rintro _ w9 ⟨gv, cv, sv, rfl, hmv, hcv, hgv0, Hc⟩
                  have H9 := H8.call0 Hc
                  refine ops_val (ex_makeFunc rfl rfl) ?_
                  refine ops_call (ex_call gf15 rfl) (deleteM gv cv b.last.length pm hplen sv 17 _ (mkIs n.client) _ (H9.pick [3] (by decide)).here hpm hon (by omega) (by omega) hcv (prd_spent hm2 (H9.at (i := 1) rfl) rfl) (row_not H9 (i := 1) (is := [3]) rfl (by decide))) ?_
                  rintro _ w10 ⟨sv2, rfl, hl2, Hd⟩
                  have H10 := (H9.callr [3] rfl Hd).pick [0, 1, 2, 4] (by decide)
                  have hmf := hm2.filter (f := fun p => !mkIs n.client p) (g := fun x => !decide (x.client = n.client)) (fun p x h => mkIs_neq h)
                  have hmfl := hmf.len
                  have hpf : Pl 7 (pm.filter fun p => !mkIs n.client p) := hpm.sub fun x hx => (List.mem_filter.1 hx).1
                  have hfl3 : (pm.filter fun p => !mkIs n.client p).length ≤ pm.length := List.length_filter_le _ _
                  have honf : ∀ p ∈ (pm.filter fun p => !mkIs n.client p), p.all (·.oneCell') = true := fun x hx => hon x (List.mem_filter.1 hx).1
                  have HC := H10
                  refine ops_val (ex_assign rfl) ?_
                  refine ops_nil ?_
                  refine nR98 ?_
                  refine run_seq ?_
                  refine run_region ?_
                  refine ops_val (ex_assign rfl) ?_
                  refine ops_nil ?_
                  refine nR98 ?_
                  refine run_seq ?_
                  refine run_block ?_
                  refine run_loop (fun nQ lQ w => ∃ (i : Nat) (y : Int), (pm.filter fun p => !mkIs n.client p).length - i = nQ ∧ Fits [some (.pointer (some ⟨gb, 0, none⟩)), none, none, some (.pointer (some ⟨g1, 0, none⟩)), none, none, none, none, none, some (.slice (hd gv) (pm.filter fun p => !mkIs n.client p).length cv), some (.int .i64 y), none, none, none, none, none, none, none, none, none, none, none, none, none, none, none, none, none, none, none, none, none, none, none, none, none, none, none, none, none, none, none, none, none, none, none, none, none, none, none, none, none, none, none, none, none, none, none, none, none, none, none, none, none, none, none, none, none, none, none, none, none, none, none, none, none, none, none, none, none, none, none, none, none, none, none, none, none, none, none, none, none, none, none, none, none, none, none] lQ ∧ y = (i : Int) ∧ i ≤ (pm.filter fun p => !mkIs n.client p).length ∧ (∀ (k : Nat) (m : Mk), k < i → (b.last.filter fun x => !decide (x.client = n.client))[k]? = some m → m.client < n.client) ∧ Hp w10 w [] []) ((pm.filter fun p => !mkIs n.client p).length) ?_ ?_
                  · exact ⟨0, _, rfl, (fs (fn (fn (fs (fn (fn (fn (fn (fn (fs (fs (fn (fn (fn (fn (fn (fn (fn (fn (fn (fn (fn (fn (fn (fn (fn (fn (fn (fn (fn (fn (fn (fn (fn (fn (fn (fn (fn (fn (fn (fn (fn (fn (fn (fn (fn (fn (fn (fn (fn (fn (fn (fn (fn (fn (fn (fn (fn (fn (fn (fn (fn (fn (fn (fn (fn (fn (fn (fn (fn (fn (fn (fn (fn (fn (fn (fn (fn (fn (fn (fn (fn (fn (fn (fn (fn (fn (fn (fn (fn (fn (fn (fn (fn (fn (fn (fn (fn f0)))))))))))))))))))))))))))))))))))))))))))))))))))))))))))))))))))))))))))))))))))))))))))))))))), rfl, Nat.zero_le _, (fun k m h => by omega), Hp.refl _⟩
                  · rintro nQ lQ w11 ⟨i, y, rfl, hfit, rfl, hi, hlo, H11⟩
                    obtain ⟨j, rfl⟩ := hfit.open
                    refine nR98 ?_
                    clear hfit
                    refine run_seq ?_
                    refine run_seq ?_
                    refine run_still mixed (by kernel_rfl) ?_
                    rintro w12 hw12
                    have H12 := Hp.drew H11; rw [← hw12] at H12
                    refine still_val (ex_move rfl) ?_
                    refine still_val (ex_move rfl) ?_
                    refine still_val (ex_len_slice Try.underlying26 rfl) ?_
                    refine still_test (ex_lss rfl rfl) (fun hp73 => ?_) (fun hp73 => ?_)
                    · have hil : i < (pm.filter fun p => !mkIs n.client p).length := by omega
                      obtain ⟨p1, hp1⟩ := get_of hil
                      obtain ⟨x, hx, hR⟩ := hmf.getL hp1
                      unfold MkR at hR
                      subst hR
                      have hc0 : ((pm.filter fun p => !mkIs n.client p).flatten ++ sv2)[0 + i * 7 + 0]? = some (.int .i64 x.client) := by
                        have h1 := hpf.get hp1 (j := 0) (u := .int .i64 x.client) rfl
                        show (_ ++ _)[0 + i * 7 + 0]? = _
                        rw [Nat.zero_add, List.getElem?_append_left (lt_of_get h1)]; exact h1
                      obtain ⟨gz, rfl⟩ := own_some HC (i := 3) rfl (by have := lt_of_get hc0; omega)
                      refine still_val (ex_move rfl) ?_
                      refine nS98 ?_
                      refine still_yes rfl ?_
                      refine still_val (ex_move rfl) ?_
                      refine still_yes rfl ?_
                      refine still_val (ex_move rfl) ?_
                      refine nS98 ?_
                      refine still_yes rfl ?_
                      refine still_val (ex_idxN Try.underlying26 ty62 rfl rfl rfl hil) ?_
                      refine still_yes rfl ?_
                      refine still_val (ex_fieldAddr fl62_0 rfl) ?_
                      refine nS98 ?_
                      refine still_yes rfl ?_
                      refine still_val (ex_load ty3 rfl ((HC.callN H12).cell (i := 3) rfl hc0)) ?_
                      refine still_yes rfl ?_
                      refine still_val (ex_fieldAddr fl48_6 rfl) ?_
                      refine nS98 ?_
                      refine still_yes rfl ?_
                      refine still_val (ex_load ty3 rfl ((HC.callN H12).cell (i := 1) rfl rfl)) ?_
                      refine still_yes rfl ?_
                      refine still_test (ex_lss rfl rfl) (fun hp82 => ?_) (fun hp82 => ?_)
                      · skip
                        refine still_val (ex_pick_t rfl rfl) ?_
                        refine still_nil ?_
                        refine nR98 ?_
                        refine run_cond_true rfl ?_
                        refine run_skip ?_
                        refine run_block ?_
                        refine run_region ?_
                        refine ops_val (ex_move rfl) ?_
                        refine ops_val (ex_add rfl rfl (IntWalk.i64_in _ (by omega))) ?_
                        refine ops_val (ex_assign rfl) ?_
                        refine ops_nil ?_
                        refine nR98 ?_
                        refine run_nil (blk_normal ?_)
                        refine run_nil (rnd_normal ?_)
                        exact ⟨(pm.filter fun p => !mkIs n.client p).length - (i + 1), by omega, i + 1, _, rfl, (fs (fn (fn (fs (fn (fn (fn (fn (fn (fs (fs (fn (fn (fn (fn (fn (fn (fn (fn (fn (fn (fn (fn (fn (fn (fn (fn (fn (fn (fn (fn (fn (fn (fn (fn (fn (fn (fn (fn (fn (fn (fn (fn (fn (fn (fn (fn (fn (fn (fn (fn (fn (fn (fn (fn (fn (fn (fn (fn (fn (fn (fn (fn (fn (fn (fn (fn (fn (fn (fn (fn (fn (fn (fn (fn (fn (fn (fn (fn (fn (fn (fn (fn (fn (fn (fn (fn (fn (fn (fn (fn (fn (fn (fn (fn (fn (fn (fn f0)))))))))))))))))))))))))))))))))))))))))))))))))))))))))))))))))))))))))))))))))))))))))))))))))), by omega, by omega, fun k m hk hm => by
                          rcases Nat.lt_or_eq_of_le (show k ≤ i by omega) with h | rfl
                          · exact hlo k m h hm
                          · rw [hx] at hm
                            simp only [Option.some.injEq] at hm
                            subst hm; exact hp82, H12⟩
                      · skip
                        refine still_val (ex_pick_t rfl rfl) ?_
                        refine still_nil ?_
                        refine nR98 ?_
                        refine run_cond_false rfl ?_
                        refine run_exit ?_
                        refine rnd_exit ?_
                        refine blk_exit ?_
                        refine run_seq ?_
                        refine run_region ?_
                        replace H12 := HC.callN H12
                        refine ops_val (ex_move rfl) ?_
                        refine ops_val (ex_move rfl) ?_
                        refine ops_val (ex_move rfl) ?_
                        refine ops_val (ex_fieldAddr fl48_6 rfl) ?_
                        refine nO98 ?_
                        refine ops_val (ex_load ty3 rfl (H12.cell (i := 1) rfl rfl)) ?_
                        refine ops_val (ex_fieldAddr fl48_7 rfl) ?_
                        refine ops_val (ex_load ty3 rfl (H12.cell (i := 1) rfl rfl)) ?_
                        refine ops_val (ex_build ty62 pl62 rfl rfl) ?_
                        refine nO98 ?_
                        refine ops_buildSlice Try.underlying26 ty62 H12 rfl (by decide) rfl ?_
                        intro w13 g13 H13 hg13
                        refine ops_call (ex_call gf18 rfl) (insertM _ cv i _ (pm.filter fun p => !mkIs n.client p).length (pm.filter fun p => !mkIs n.client p) rfl (mkC ⟨n.client, n.seq⟩) sv2 _ (H13.pick [3] (by decide)).here hpf honf (by omega) (by rw [hl2]; exact hcv) hgv0 (by omega) (H13.at (i := 4) rfl) rfl rfl (row_not H13 (i := 4) (is := [3]) rfl (by decide)) (by omega)) ?_
                        rintro _ w14 ⟨gw, cw, sw, rfl, hnw, hcw, hgw, Hd⟩
                        have H14 := (H13.callr [3] rfl Hd).pick [0, 1, 2, 5] (by decide)
                        refine ops_val (ex_nilCheck rfl) ?_
                        refine ops_val (ex_fieldAddr fl28_2 rfl) ?_
                        refine nO98 ?_
                        refine ops_store1 ty26 H14 0 rfl rfl rfl rfl (by first | (simp; done) | simp [putAt]) rfl ?_
                        intro w15 H15
                        refine ops_nil ?_
                        refine nR98 ?_
                        refine run_seq ?_
                        refine run_region ?_
                        refine ops_val (ex_assign rfl) ?_
                        refine ops_nil ?_
                        refine nR98 ?_
                        refine run_ret ?_
                        refine fin_ret1 rfl rfl ?_
                        have HW := HB.all H15
                        have hput := putMk_del (v := ⟨n.client, n.seq⟩) (i := i) (mks_rise hg.mks).2 (by rw [← hmfl]; omega) hlo (.inr ⟨x, hx, hp82⟩)
                        have hsp : spend b.last n.client n.seq = putMk b.last ⟨n.client, n.seq⟩ := spend_more (by omega) (hyq rfl) (by omega)
                        rw [← hput] at hsp
                        have hln : ((b.last.filter fun x => !decide (x.client = n.client)).take i ++ (⟨n.client, n.seq⟩ : Mk) :: (b.last.filter fun x => !decide (x.client = n.client)).drop i).length = (pm.filter fun p => !mkIs n.client p).length + 1 := by rw [List.length_append, List.length_cons, List.length_take, List.length_drop, ← hmfl]; omega
                        refine ⟨fun _ => ⟨rfl, _, HW.pick [0] (by decide), A1, k1, A9, k9, hd gw, cw, by rw [hsp, hln]; rfl, hb1.toS HW hks, hS9.toR H15 (fun x hx _ => ⟨hnb x hx, .inr (by omega)⟩), ?_⟩, fun h => absurd hmay h⟩
                        rw [hsp]
                        exact Sl.row HW (i := 3) rfl ((hpf.sub fun x hx => List.mem_of_mem_take hx).app fun x hx => by
                          rcases List.mem_cons.1 hx with rfl | hx
                          · rfl
                          · exact hpf x (List.mem_of_mem_drop hx)) (by decide) ((hmf.take i).app ⟨rfl, hmf.drop i⟩) (fun b hb => row_new (ok := ok) HW (i := 3) rfl (fun c hc => by rw [List.mem_singleton.1 hc]; exact fun e => HW.ne (i := 3) (j := 0) (g := gb) (by rw [e]; rfl) rfl (by decide) rfl) b hb)
                    · skip
                      refine still_val (ex_move rfl) ?_
                      refine nS98 ?_
                      refine still_no rfl ?_
                      refine still_no rfl ?_
                      refine nS98 ?_
                      refine still_no rfl ?_
                      refine still_no rfl ?_
                      refine nS98 ?_
                      refine still_no rfl ?_
                      refine still_no rfl ?_
                      refine nS98 ?_
                      refine still_no rfl ?_
                      refine still_no rfl ?_
                      refine still_val (ex_pick_f rfl rfl) ?_
                      refine still_nil ?_
                      refine nR98 ?_
                      refine run_cond_false rfl ?_
                      refine run_exit ?_
                      refine rnd_exit ?_
                      refine blk_exit ?_
                      refine run_seq ?_
                      refine run_region ?_
                      replace H12 := HC.callN H12
                      refine ops_val (ex_move rfl) ?_
                      refine ops_val (ex_move rfl) ?_
                      refine ops_val (ex_move rfl) ?_
                      refine ops_val (ex_fieldAddr fl48_6 rfl) ?_
                      refine nO98 ?_
                      refine ops_val (ex_load ty3 rfl (H12.cell (i := 1) rfl rfl)) ?_
                      refine ops_val (ex_fieldAddr fl48_7 rfl) ?_
                      refine ops_val (ex_load ty3 rfl (H12.cell (i := 1) rfl rfl)) ?_
                      refine ops_val (ex_build ty62 pl62 rfl rfl) ?_
                      refine nO98 ?_
                      refine ops_buildSlice Try.underlying26 ty62 H12 rfl (by decide) rfl ?_
                      intro w13 g13 H13 hg13
                      refine ops_call (ex_call gf18 rfl) (insertM _ cv i _ (pm.filter fun p => !mkIs n.client p).length (pm.filter fun p => !mkIs n.client p) rfl (mkC ⟨n.client, n.seq⟩) sv2 _ (H13.pick [3] (by decide)).here hpf honf (by omega) (by rw [hl2]; exact hcv) hgv0 (by omega) (H13.at (i := 4) rfl) rfl rfl (row_not H13 (i := 4) (is := [3]) rfl (by decide)) (by omega)) ?_
                      rintro _ w14 ⟨gw, cw, sw, rfl, hnw, hcw, hgw, Hd⟩
                      have H14 := (H13.callr [3] rfl Hd).pick [0, 1, 2, 5] (by decide)
                      refine ops_val (ex_nilCheck rfl) ?_
                      refine ops_val (ex_fieldAddr fl28_2 rfl) ?_
                      refine nO98 ?_
                      refine ops_store1 ty26 H14 0 rfl rfl rfl rfl (by first | (simp; done) | simp [putAt]) rfl ?_
                      intro w15 H15
                      refine ops_nil ?_
                      refine nR98 ?_
                      refine run_seq ?_
                      refine run_region ?_
                      refine ops_val (ex_assign rfl) ?_
                      refine ops_nil ?_
                      refine nR98 ?_
                      refine run_ret ?_
                      refine fin_ret1 rfl rfl ?_
                      have HW := HB.all H15
                      have hput := putMk_del (v := ⟨n.client, n.seq⟩) (i := i) (mks_rise hg.mks).2 (by rw [← hmfl]; omega) hlo (.inl (by rw [← hmfl]; omega))
                      have hsp : spend b.last n.client n.seq = putMk b.last ⟨n.client, n.seq⟩ := spend_more (by omega) (hyq rfl) (by omega)
                      rw [← hput] at hsp
                      have hln : ((b.last.filter fun x => !decide (x.client = n.client)).take i ++ (⟨n.client, n.seq⟩ : Mk) :: (b.last.filter fun x => !decide (x.client = n.client)).drop i).length = (pm.filter fun p => !mkIs n.client p).length + 1 := by rw [List.length_append, List.length_cons, List.length_take, List.length_drop, ← hmfl]; omega
                      refine ⟨fun _ => ⟨rfl, _, HW.pick [0] (by decide), A1, k1, A9, k9, hd gw, cw, by rw [hsp, hln]; rfl, hb1.toS HW hks, hS9.toR H15 (fun x hx _ => ⟨hnb x hx, .inr (by omega)⟩), ?_⟩, fun h => absurd hmay h⟩
                      rw [hsp]
                      exact Sl.row HW (i := 3) rfl ((hpf.sub fun x hx => List.mem_of_mem_take hx).app fun x hx => by
                        rcases List.mem_cons.1 hx with rfl | hx
                        · rfl
                        · exact hpf x (List.mem_of_mem_drop hx)) (by decide) ((hmf.take i).app ⟨rfl, hmf.drop i⟩) (fun b hb => row_new (ok := ok) HW (i := 3) rfl (fun c hc => by rw [List.mem_singleton.1 hc]; exact fun e => HW.ne (i := 3) (j := 0) (g := gb) (by rw [e]; rfl) rfl (by decide) rfl) b hb)
            · skip
              refine mixt_o rfl ?_
              refine ops_alloc ty62 H5 ?_
              intro w6 g6 H6 hg6
              refine ops_nil ?_
              refine ⟨fun hne => H6.pick [0, 1] (by decide), ?_⟩
              change MixT _ _ _ _ _ _ [_, _, _, _, _, _, _, _, _, _, _, _, _, _, _, _, _, _, _, _, _, _, _, _, _, _, _, _, _, _, _, _, _, _, _, _, _, _, _, _, _, _, _, _, _, _, _, _, _, _, _, _, _, _, _, _, _, _, _, _, _, _, _, _, _, _, _, _, _, _, _, _, _, _, _, _, _, _, _, _, _, _, _, _, _, _, _, _, _, _, _, _, _, _, _, _, _, _] _
              refine mixt_o rfl ?_
              refine ops_call (ex_call gf14 rfl) (find_s A3 k3 b.last n.client (up ok w0.heap.size) _ (hb3.toM (HB.all H6) hks) (by omega) hg.mks) ?_
              rintro _ w7 ⟨mq, fq, rfl, hyq, hnq, Hd⟩
              have H7 := H6.callN Hd
              cases fq
              · skip
                refine ops_nil ?_
                refine ⟨fun hne => H7.pick [0, 1] (by decide), ?_⟩
                refine mixt_p rfl ?_
                refine mix1_val (fun wz hz => ex_move rfl) ?_
                refine mixt_p rfl ?_
                refine mix1_val (fun wz hz => ex_extract rfl rfl) ?_
                refine mixt_p rfl ?_
                refine mix1_val (fun wz hz => ex_extract rfl rfl) ?_
                refine mixt_o rfl ?_
                refine ops_store ty62 H7 2 rfl rfl rfl rfl rfl (by first | decide | (simp; done) | simp [putAt]) rfl ?_
                intro w8 H8
                refine ops_nil ?_
                refine ⟨fun hne => H8.pick [0, 1] (by decide), ?_⟩
                change MixT _ _ _ _ _ _ [_, _, _, _, _, _, _, _, _, _, _, _, _, _, _, _, _, _, _, _, _, _, _, _, _, _, _, _, _, _, _, _, _, _, _, _, _, _, _, _, _, _, _, _, _, _, _, _, _, _, _, _, _, _, _, _, _, _, _, _, _, _, _, _, _, _, _, _, _, _, _, _, _, _, _, _, _, _, _, _, _, _, _, _, _, _, _, _, _, _, _, _, _, _, _, _, _, _] _
                refine mixt_o rfl ?_
                refine ops_val (ex_assign rfl) ?_
                refine ops_nil ?_
                refine ⟨fun hne => absurd rfl hne, ?_⟩
                change MixT _ _ _ _ _ _ [_, _, _, _, _, _, _, _, _, _, _, _, _, _, _, _, _, _, _, _, _, _, _, _, _, _, _, _, _, _, _, _, _, _, _, _, _, _, _, _, _, _, _, _, _, _, _, _, _, _, _, _, _, _, _, _, _, _, _, _, _, _, _, _, _, _, _, _, _, _, _, _, _, _, _, _, _, _, _, _, _, _, _, _, _, _, _, _, _, _, _, _, _, _, _, _, _, _] _
                refine mixt_nil ?_
                refine nR98 ?_
                refine run_seq ?_
                refine run_region ?_
                refine ops_val (ex_move rfl) ?_
                refine ops_val (ex_move rfl) ?_
                refine nO98 ?_
                refine ops_no rfl ?_
                refine ops_no rfl ?_
                refine nO98 ?_
                refine ops_no rfl ?_
                refine ops_no rfl ?_
                refine nO98 ?_
                refine ops_no rfl ?_
                refine ops_val (ex_pick_f rfl rfl) ?_
                refine ops_nil ?_
                refine nR98 ?_
                refine run_cond_false rfl ?_
                refine run_skip ?_
                refine run_seq ?_
                refine run_region ?_
                refine ops_val (ex_move rfl) ?_
                refine ops_val (ex_nilCheck rfl) ?_
                refine ops_val (ex_fieldAddr fl28_2 rfl) ?_
                refine ops_val (ex_load ty26 rfl (H8.cell (i := 0) rfl rfl)) ?_
                refine nO98 ?_
                refine ops_call (ex_call gf16 rfl) (cloneM A3 b.last.length k3 pm.flatten _ (hrm.move (by decide) ham (HB.all H8) hks).1 (ones_flatten hon) (by omega)) ?_
                rintro _ w9 ⟨gv, cv, sv, rfl, hmv, hcv, hgv0, Hc⟩
                have H9 := H8.call0 Hc
                refine ops_val (ex_makeFunc rfl rfl) ?_
                refine ops_call (ex_call gf15 rfl) (deleteM gv cv b.last.length pm hplen sv 17 _ (mkIs n.client) _ (H9.pick [3] (by decide)).here hpm hon (by omega) (by omega) hcv (prd_spent hm2 (H9.at (i := 1) rfl) rfl) (row_not H9 (i := 1) (is := [3]) rfl (by decide))) ?_
                rintro _ w10 ⟨sv2, rfl, hl2, Hd⟩
                have H10 := (H9.callr [3] rfl Hd).pick [0, 1, 2, 4] (by decide)
                have hmf := hm2.filter (f := fun p => !mkIs n.client p) (g := fun x => !decide (x.client = n.client)) (fun p x h => mkIs_neq h)
                have hmfl := hmf.len
                have hpf : Pl 7 (pm.filter fun p => !mkIs n.client p) := hpm.sub fun x hx => (List.mem_filter.1 hx).1
                have hfl3 : (pm.filter fun p => !mkIs n.client p).length ≤ pm.length := List.length_filter_le _ _
                have honf : ∀ p ∈ (pm.filter fun p => !mkIs n.client p), p.all (·.oneCell') = true := fun x hx => hon x (List.mem_filter.1 hx).1
                have HC := H10
                refine ops_val (ex_assign rfl) ?_
                refine ops_nil ?_
                refine nR98 ?_
                refine run_seq ?_
                refine run_region ?_
                refine ops_val (ex_assign rfl) ?_
                refine ops_nil ?_
                refine nR98 ?_
                refine run_seq ?_
                refine run_block ?_
                refine run_loop (fun nQ lQ w => ∃ (i : Nat) (y : Int), (pm.filter fun p => !mkIs n.client p).length - i = nQ ∧ Fits [some (.pointer (some ⟨gb, 0, none⟩)), none, none, some (.pointer (some ⟨g1, 0, none⟩)), none, none, none, none, none, some (.slice (hd gv) (pm.filter fun p => !mkIs n.client p).length cv), some (.int .i64 y), none, none, none, none, none, none, none, none, none, none, none, none, none, none, none, none, none, none, none, none, none, none, none, none, none, none, none, none, none, none, none, none, none, none, none, none, none, none, none, none, none, none, none, none, none, none, none, none, none, none, none, none, none, none, none, none, none, none, none, none, none, none, none, none, none, none, none, none, none, none, none, none, none, none, none, none, none, none, none, none, none, none, none, none, none, none, none] lQ ∧ y = (i : Int) ∧ i ≤ (pm.filter fun p => !mkIs n.client p).length ∧ (∀ (k : Nat) (m : Mk), k < i → (b.last.filter fun x => !decide (x.client = n.client))[k]? = some m → m.client < n.client) ∧ Hp w10 w [] []) ((pm.filter fun p => !mkIs n.client p).length) ?_ ?_
                · exact ⟨0, _, rfl, (fs (fn (fn (fs (fn (fn (fn (fn (fn (fs (fs (fn (fn (fn (fn (fn (fn (fn (fn (fn (fn (fn (fn (fn (fn (fn (fn (fn (fn (fn (fn (fn (fn (fn (fn (fn (fn (fn (fn (fn (fn (fn (fn (fn (fn (fn (fn (fn (fn (fn (fn (fn (fn (fn (fn (fn (fn (fn (fn (fn (fn (fn (fn (fn (fn (fn (fn (fn (fn (fn (fn (fn (fn (fn (fn (fn (fn (fn (fn (fn (fn (fn (fn (fn (fn (fn (fn (fn (fn (fn (fn (fn (fn (fn (fn (fn (fn (fn f0)))))))))))))))))))))))))))))))))))))))))))))))))))))))))))))))))))))))))))))))))))))))))))))))))), rfl, Nat.zero_le _, (fun k m h => by omega), Hp.refl _⟩
                · rintro nQ lQ w11 ⟨i, y, rfl, hfit, rfl, hi, hlo, H11⟩
                  obtain ⟨j, rfl⟩ := hfit.open
                  refine nR98 ?_
                  clear hfit
                  refine run_seq ?_
                  refine run_seq ?_
                  refine run_still mixed (by kernel_rfl) ?_
                  rintro w12 hw12
                  have H12 := Hp.drew H11; rw [← hw12] at H12
                  refine still_val (ex_move rfl) ?_
                  refine still_val (ex_move rfl) ?_
                  refine still_val (ex_len_slice Try.underlying26 rfl) ?_
                  refine still_test (ex_lss rfl rfl) (fun hp73 => ?_) (fun hp73 => ?_)
                  · have hil : i < (pm.filter fun p => !mkIs n.client p).length := by omega
                    obtain ⟨p1, hp1⟩ := get_of hil
                    obtain ⟨x, hx, hR⟩ := hmf.getL hp1
                    unfold MkR at hR
                    subst hR
                    have hc0 : ((pm.filter fun p => !mkIs n.client p).flatten ++ sv2)[0 + i * 7 + 0]? = some (.int .i64 x.client) := by
                      have h1 := hpf.get hp1 (j := 0) (u := .int .i64 x.client) rfl
                      show (_ ++ _)[0 + i * 7 + 0]? = _
                      rw [Nat.zero_add, List.getElem?_append_left (lt_of_get h1)]; exact h1
                    obtain ⟨gz, rfl⟩ := own_some HC (i := 3) rfl (by have := lt_of_get hc0; omega)
                    refine still_val (ex_move rfl) ?_
                    refine nS98 ?_
                    refine still_yes rfl ?_
                    refine still_val (ex_move rfl) ?_
                    refine still_yes rfl ?_
                    refine still_val (ex_move rfl) ?_
                    refine nS98 ?_
                    refine still_yes rfl ?_
                    refine still_val (ex_idxN Try.underlying26 ty62 rfl rfl rfl hil) ?_
                    refine still_yes rfl ?_
                    refine still_val (ex_fieldAddr fl62_0 rfl) ?_
                    refine nS98 ?_
                    refine still_yes rfl ?_
                    refine still_val (ex_load ty3 rfl ((HC.callN H12).cell (i := 3) rfl hc0)) ?_
                    refine still_yes rfl ?_
                    refine still_val (ex_fieldAddr fl48_6 rfl) ?_
                    refine nS98 ?_
                    refine still_yes rfl ?_
                    refine still_val (ex_load ty3 rfl ((HC.callN H12).cell (i := 1) rfl rfl)) ?_
                    refine still_yes rfl ?_
                    refine still_test (ex_lss rfl rfl) (fun hp82 => ?_) (fun hp82 => ?_)
                    · skip
                      refine still_val (ex_pick_t rfl rfl) ?_
                      refine still_nil ?_
                      refine nR98 ?_
                      refine run_cond_true rfl ?_
                      refine run_skip ?_
                      refine run_block ?_
                      refine run_region ?_
                      refine ops_val (ex_move rfl) ?_
                      refine ops_val (ex_add rfl rfl (IntWalk.i64_in _ (by omega))) ?_
                      refine ops_val (ex_assign rfl) ?_
                      refine ops_nil ?_
                      refine nR98 ?_
                      refine run_nil (blk_normal ?_)
                      refine run_nil (rnd_normal ?_)
                      exact ⟨(pm.filter fun p => !mkIs n.client p).length - (i + 1), by omega, i + 1, _, rfl, (fs (fn (fn (fs (fn (fn (fn (fn (fn (fs (fs (fn (fn (fn (fn (fn (fn (fn (fn (fn (fn (fn (fn (fn (fn (fn (fn (fn (fn (fn (fn (fn (fn (fn (fn (fn (fn (fn (fn (fn (fn (fn (fn (fn (fn (fn (fn (fn (fn (fn (fn (fn (fn (fn (fn (fn (fn (fn (fn (fn (fn (fn (fn (fn (fn (fn (fn (fn (fn (fn (fn (fn (fn (fn (fn (fn (fn (fn (fn (fn (fn (fn (fn (fn (fn (fn (fn (fn (fn (fn (fn (fn (fn (fn (fn (fn (fn (fn f0)))))))))))))))))))))))))))))))))))))))))))))))))))))))))))))))))))))))))))))))))))))))))))))))))), by omega, by omega, fun k m hk hm => by
                        rcases Nat.lt_or_eq_of_le (show k ≤ i by omega) with h | rfl
                        · exact hlo k m h hm
                        · rw [hx] at hm
                          simp only [Option.some.injEq] at hm
                          subst hm; exact hp82, H12⟩
                    · skip
                      refine still_val (ex_pick_t rfl rfl) ?_
                      refine still_nil ?_
                      refine nR98 ?_
                      refine run_cond_false rfl ?_
                      refine run_exit ?_
                      refine rnd_exit ?_
                      refine blk_exit ?_
                      refine run_seq ?_
                      refine run_region ?_
                      replace H12 := HC.callN H12
                      refine ops_val (ex_move rfl) ?_
                      refine ops_val (ex_move rfl) ?_
                      refine ops_val (ex_move rfl) ?_
                      refine ops_val (ex_fieldAddr fl48_6 rfl) ?_
                      refine nO98 ?_
                      refine ops_val (ex_load ty3 rfl (H12.cell (i := 1) rfl rfl)) ?_
                      refine ops_val (ex_fieldAddr fl48_7 rfl) ?_
                      refine ops_val (ex_load ty3 rfl (H12.cell (i := 1) rfl rfl)) ?_
                      refine ops_val (ex_build ty62 pl62 rfl rfl) ?_
                      refine nO98 ?_
                      refine ops_buildSlice Try.underlying26 ty62 H12 rfl (by decide) rfl ?_
                      intro w13 g13 H13 hg13
                      refine ops_call (ex_call gf18 rfl) (insertM _ cv i _ (pm.filter fun p => !mkIs n.client p).length (pm.filter fun p => !mkIs n.client p) rfl (mkC ⟨n.client, n.seq⟩) sv2 _ (H13.pick [3] (by decide)).here hpf honf (by omega) (by rw [hl2]; exact hcv) hgv0 (by omega) (H13.at (i := 4) rfl) rfl rfl (row_not H13 (i := 4) (is := [3]) rfl (by decide)) (by omega)) ?_
                      rintro _ w14 ⟨gw, cw, sw, rfl, hnw, hcw, hgw, Hd⟩
                      have H14 := (H13.callr [3] rfl Hd).pick [0, 1, 2, 5] (by decide)
                      refine ops_val (ex_nilCheck rfl) ?_
                      refine ops_val (ex_fieldAddr fl28_2 rfl) ?_
                      refine nO98 ?_
                      refine ops_store1 ty26 H14 0 rfl rfl rfl rfl (by first | (simp; done) | simp [putAt]) rfl ?_
                      intro w15 H15
                      refine ops_nil ?_
                      refine nR98 ?_
                      refine run_seq ?_
                      refine run_region ?_
                      refine ops_val (ex_assign rfl) ?_
                      refine ops_nil ?_
                      refine nR98 ?_
                      refine run_ret ?_
                      refine fin_ret1 rfl rfl ?_
                      have HW := HB.all H15
                      have hput := putMk_del (v := ⟨n.client, n.seq⟩) (i := i) (mks_rise hg.mks).2 (by rw [← hmfl]; omega) hlo (.inr ⟨x, hx, hp82⟩)
                      have hsp : spend b.last n.client n.seq = putMk b.last ⟨n.client, n.seq⟩ := spend_new (by omega) (hnq rfl)
                      rw [← hput] at hsp
                      have hln : ((b.last.filter fun x => !decide (x.client = n.client)).take i ++ (⟨n.client, n.seq⟩ : Mk) :: (b.last.filter fun x => !decide (x.client = n.client)).drop i).length = (pm.filter fun p => !mkIs n.client p).length + 1 := by rw [List.length_append, List.length_cons, List.length_take, List.length_drop, ← hmfl]; omega
                      refine ⟨fun _ => ⟨rfl, _, HW.pick [0] (by decide), A1, k1, A9, k9, hd gw, cw, by rw [hsp, hln]; rfl, hb1.toS HW hks, hS9.toR H15 (fun x hx _ => ⟨hnb x hx, .inr (by omega)⟩), ?_⟩, fun h => absurd hmay h⟩
                      rw [hsp]
                      exact Sl.row HW (i := 3) rfl ((hpf.sub fun x hx => List.mem_of_mem_take hx).app fun x hx => by
                        rcases List.mem_cons.1 hx with rfl | hx
                        · rfl
                        · exact hpf x (List.mem_of_mem_drop hx)) (by decide) ((hmf.take i).app ⟨rfl, hmf.drop i⟩) (fun b hb => row_new (ok := ok) HW (i := 3) rfl (fun c hc => by rw [List.mem_singleton.1 hc]; exact fun e => HW.ne (i := 3) (j := 0) (g := gb) (by rw [e]; rfl) rfl (by decide) rfl) b hb)
                  · skip
                    refine still_val (ex_move rfl) ?_
                    refine nS98 ?_
                    refine still_no rfl ?_
                    refine still_no rfl ?_
                    refine nS98 ?_
                    refine still_no rfl ?_
                    refine still_no rfl ?_
                    refine nS98 ?_
                    refine still_no rfl ?_
                    refine still_no rfl ?_
                    refine nS98 ?_
                    refine still_no rfl ?_
                    refine still_no rfl ?_
                    refine still_val (ex_pick_f rfl rfl) ?_
                    refine still_nil ?_
                    refine nR98 ?_
                    refine run_cond_false rfl ?_
                    refine run_exit ?_
                    refine rnd_exit ?_
                    refine blk_exit ?_
                    refine run_seq ?_
                    refine run_region ?_
                    replace H12 := HC.callN H12
                    refine ops_val (ex_move rfl) ?_
                    refine ops_val (ex_move rfl) ?_
                    refine ops_val (ex_move rfl) ?_
                    refine ops_val (ex_fieldAddr fl48_6 rfl) ?_
                    refine nO98 ?_
                    refine ops_val (ex_load ty3 rfl (H12.cell (i := 1) rfl rfl)) ?_
                    refine ops_val (ex_fieldAddr fl48_7 rfl) ?_
                    refine ops_val (ex_load ty3 rfl (H12.cell (i := 1) rfl rfl)) ?_
                    refine ops_val (ex_build ty62 pl62 rfl rfl) ?_
                    refine nO98 ?_
                    refine ops_buildSlice Try.underlying26 ty62 H12 rfl (by decide) rfl ?_
                    intro w13 g13 H13 hg13
                    refine ops_call (ex_call gf18 rfl) (insertM _ cv i _ (pm.filter fun p => !mkIs n.client p).length (pm.filter fun p => !mkIs n.client p) rfl (mkC ⟨n.client, n.seq⟩) sv2 _ (H13.pick [3] (by decide)).here hpf honf (by omega) (by rw [hl2]; exact hcv) hgv0 (by omega) (H13.at (i := 4) rfl) rfl rfl (row_not H13 (i := 4) (is := [3]) rfl (by decide)) (by omega)) ?_
                    rintro _ w14 ⟨gw, cw, sw, rfl, hnw, hcw, hgw, Hd⟩
                    have H14 := (H13.callr [3] rfl Hd).pick [0, 1, 2, 5] (by decide)
                    refine ops_val (ex_nilCheck rfl) ?_
                    refine ops_val (ex_fieldAddr fl28_2 rfl) ?_
                    refine nO98 ?_
                    refine ops_store1 ty26 H14 0 rfl rfl rfl rfl (by first | (simp; done) | simp [putAt]) rfl ?_
                    intro w15 H15
                    refine ops_nil ?_
                    refine nR98 ?_
                    refine run_seq ?_
                    refine run_region ?_
                    refine ops_val (ex_assign rfl) ?_
                    refine ops_nil ?_
                    refine nR98 ?_
                    refine run_ret ?_
                    refine fin_ret1 rfl rfl ?_
                    have HW := HB.all H15
                    have hput := putMk_del (v := ⟨n.client, n.seq⟩) (i := i) (mks_rise hg.mks).2 (by rw [← hmfl]; omega) hlo (.inl (by rw [← hmfl]; omega))
                    have hsp : spend b.last n.client n.seq = putMk b.last ⟨n.client, n.seq⟩ := spend_new (by omega) (hnq rfl)
                    rw [← hput] at hsp
                    have hln : ((b.last.filter fun x => !decide (x.client = n.client)).take i ++ (⟨n.client, n.seq⟩ : Mk) :: (b.last.filter fun x => !decide (x.client = n.client)).drop i).length = (pm.filter fun p => !mkIs n.client p).length + 1 := by rw [List.length_append, List.length_cons, List.length_take, List.length_drop, ← hmfl]; omega
                    refine ⟨fun _ => ⟨rfl, _, HW.pick [0] (by decide), A1, k1, A9, k9, hd gw, cw, by rw [hsp, hln]; rfl, hb1.toS HW hks, hS9.toR H15 (fun x hx _ => ⟨hnb x hx, .inr (by omega)⟩), ?_⟩, fun h => absurd hmay h⟩
                    rw [hsp]
                    exact Sl.row HW (i := 3) rfl ((hpf.sub fun x hx => List.mem_of_mem_take hx).app fun x hx => by
                      rcases List.mem_cons.1 hx with rfl | hx
                      · rfl
                      · exact hpf x (List.mem_of_mem_drop hx)) (by decide) ((hmf.take i).app ⟨rfl, hmf.drop i⟩) (fun b hb => row_new (ok := ok) HW (i := 3) rfl (fun c hc => by rw [List.mem_singleton.1 hc]; exact fun e => HW.ne (i := 3) (j := 0) (g := gb) (by rw [e]; rfl) rfl (by decide) rfl) b hb)
              · skip
                refine ops_nil ?_
                refine ⟨fun hne => H7.pick [0, 1] (by decide), ?_⟩
                refine mixt_p rfl ?_
                refine mix1_val (fun wz hz => ex_move rfl) ?_
                refine mixt_p rfl ?_
                refine mix1_val (fun wz hz => ex_extract rfl rfl) ?_
                refine mixt_p rfl ?_
                refine mix1_val (fun wz hz => ex_extract rfl rfl) ?_
                refine mixt_o rfl ?_
                refine ops_store ty62 H7 2 rfl rfl rfl rfl rfl (by first | decide | (simp; done) | simp [putAt]) rfl ?_
                intro w8 H8
                refine ops_nil ?_
                refine ⟨fun hne => H8.pick [0, 1] (by decide), ?_⟩
                change MixT _ _ _ _ _ _ [_, _, _, _, _, _, _, _, _, _, _, _, _, _, _, _, _, _, _, _, _, _, _, _, _, _, _, _, _, _, _, _, _, _, _, _, _, _, _, _, _, _, _, _, _, _, _, _, _, _, _, _, _, _, _, _, _, _, _, _, _, _, _, _, _, _, _, _, _, _, _, _, _, _, _, _, _, _, _, _, _, _, _, _, _, _, _, _, _, _, _, _, _, _, _, _, _, _] _
                refine mixt_o rfl ?_
                refine ops_val (ex_assign rfl) ?_
                refine ops_nil ?_
                refine ⟨fun hne => absurd rfl hne, ?_⟩
                change MixT _ _ _ _ _ _ [_, _, _, _, _, _, _, _, _, _, _, _, _, _, _, _, _, _, _, _, _, _, _, _, _, _, _, _, _, _, _, _, _, _, _, _, _, _, _, _, _, _, _, _, _, _, _, _, _, _, _, _, _, _, _, _, _, _, _, _, _, _, _, _, _, _, _, _, _, _, _, _, _, _, _, _, _, _, _, _, _, _, _, _, _, _, _, _, _, _, _, _, _, _, _, _, _, _] _
                refine mixt_nil ?_
                refine nR98 ?_
                refine run_seq ?_
                refine run_region ?_
                refine ops_val (ex_move rfl) ?_
                refine ops_val (ex_move rfl) ?_
                refine nO98 ?_
                refine ops_yes rfl ?_
                refine ops_val (ex_fieldAddr fl62_1 rfl) ?_
                refine ops_yes rfl ?_
                refine ops_val (ex_load ty3 rfl (H8.cell (i := 2) rfl rfl)) ?_
                refine nO98 ?_
                refine ops_yes rfl ?_
                refine ops_val (ex_fieldAddr fl48_7 rfl) ?_
                refine ops_yes rfl ?_
                refine ops_val (ex_load ty3 rfl (H8.cell (i := 1) rfl rfl)) ?_
                refine nO98 ?_
                refine ops_yes rfl ?_
                refine ops_test (ex_geq rfl rfl) (fun hp61 => ?_) (fun hp61 => ?_)
                · skip
                  refine ops_val (ex_pick_t rfl rfl) ?_
                  refine ops_nil ?_
                  refine nR98 ?_
                  refine run_cond_true rfl ?_
                  refine run_seq ?_
                  refine run_region ?_
                  refine ops_val (ex_assign rfl) ?_
                  refine ops_nil ?_
                  refine nR98 ?_
                  refine run_ret ?_
                  refine fin_ret1 rfl rfl ?_
                  have HW := HB.all H8
                  refine ⟨fun _ => ⟨rfl, _, HW.pick [0] (by decide), A1, k1, A9, k9, A3, k3, by rw [spend_has (hyq rfl) (by omega)]; rfl, hb1.toS HW hks, hS9.toR H8 (fun x hx _ => ⟨hnb x hx, .inr (by omega)⟩), ?_⟩, fun h => absurd hmay h⟩
                  rw [spend_has (hyq rfl) (by omega)]
                  exact hb3.toM HW hks
                · skip
                  refine ops_val (ex_pick_t rfl rfl) ?_
                  refine ops_nil ?_
                  refine nR98 ?_
                  refine run_cond_false rfl ?_
                  refine run_skip ?_
                  refine run_seq ?_
                  refine run_region ?_
                  refine ops_val (ex_move rfl) ?_
                  refine ops_val (ex_nilCheck rfl) ?_
                  refine ops_val (ex_fieldAddr fl28_2 rfl) ?_
                  refine ops_val (ex_load ty26 rfl (H8.cell (i := 0) rfl rfl)) ?_
                  refine nO98 ?_
                  refine ops_call (ex_call gf16 rfl) (cloneM A3 b.last.length k3 pm.flatten _ (hrm.move (by decide) ham (HB.all H8) hks).1 (ones_flatten hon) (by omega)) ?_
                  rintro _ w9 ⟨gv, cv, sv, rfl, hmv, hcv, hgv0, Hc⟩
                  have H9 := H8.call0 Hc
                  refine ops_val (ex_makeFunc rfl rfl) ?_
                  refine ops_call (ex_call gf15 rfl) (deleteM gv cv b.last.length pm hplen sv 17 _ (mkIs n.client) _ (H9.pick [3] (by decide)).here hpm hon (by omega) (by omega) hcv (prd_spent hm2 (H9.at (i := 1) rfl) rfl) (row_not H9 (i := 1) (is := [3]) rfl (by decide))) ?_
                  rintro _ w10 ⟨sv2, rfl, hl2, Hd⟩
                  have H10 := (H9.callr [3] rfl Hd).pick [0, 1, 2, 4] (by decide)
                  have hmf := hm2.filter (f := fun p => !mkIs n.client p) (g := fun x => !decide (x.client = n.client)) (fun p x h => mkIs_neq h)
                  have hmfl := hmf.len
                  have hpf : Pl 7 (pm.filter fun p => !mkIs n.client p) := hpm.sub fun x hx => (List.mem_filter.1 hx).1
                  have hfl3 : (pm.filter fun p => !mkIs n.client p).length ≤ pm.length := List.length_filter_le _ _
                  have honf : ∀ p ∈ (pm.filter fun p => !mkIs n.client p), p.all (·.oneCell') = true := fun x hx => hon x (List.mem_filter.1 hx).1
                  have HC := H10
                  refine ops_val (ex_assign rfl) ?_
                  refine ops_nil ?_
                  refine nR98 ?_
                  refine run_seq ?_
                  refine run_region ?_
                  refine ops_val (ex_assign rfl) ?_
                  refine ops_nil ?_
                  refine nR98 ?_
                  refine run_seq ?_
                  refine run_block ?_
                  refine run_loop (fun nQ lQ w => ∃ (i : Nat) (y : Int), (pm.filter fun p => !mkIs n.client p).length - i = nQ ∧ Fits [some (.pointer (some ⟨gb, 0, none⟩)), none, none, some (.pointer (some ⟨g1, 0, none⟩)), none, none, none, none, none, some (.slice (hd gv) (pm.filter fun p => !mkIs n.client p).length cv), some (.int .i64 y), none, none, none, none, none, none, none, none, none, none, none, none, none, none, none, none, none, none, none, none, none, none, none, none, none, none, none, none, none, none, none, none, none, none, none, none, none, none, none, none, none, none, none, none, none, none, none, none, none, none, none, none, none, none, none, none, none, none, none, none, none, none, none, none, none, none, none, none, none, none, none, none, none, none, none, none, none, none, none, none, none, none, none, none, none, none, none] lQ ∧ y = (i : Int) ∧ i ≤ (pm.filter fun p => !mkIs n.client p).length ∧ (∀ (k : Nat) (m : Mk), k < i → (b.last.filter fun x => !decide (x.client = n.client))[k]? = some m → m.client < n.client) ∧ Hp w10 w [] []) ((pm.filter fun p => !mkIs n.client p).length) ?_ ?_
                  · exact ⟨0, _, rfl, (fs (fn (fn (fs (fn (fn (fn (fn (fn (fs (fs (fn (fn (fn (fn (fn (fn (fn (fn (fn (fn (fn (fn (fn (fn (fn (fn (fn (fn (fn (fn (fn (fn (fn (fn (fn (fn (fn (fn (fn (fn (fn (fn (fn (fn (fn (fn (fn (fn (fn (fn (fn (fn (fn (fn (fn (fn (fn (fn (fn (fn (fn (fn (fn (fn (fn (fn (fn (fn (fn (fn (fn (fn (fn (fn (fn (fn (fn (fn (fn (fn (fn (fn (fn (fn (fn (fn (fn (fn (fn (fn (fn (fn (fn (fn (fn (fn (fn f0)))))))))))))))))))))))))))))))))))))))))))))))))))))))))))))))))))))))))))))))))))))))))))))))))), rfl, Nat.zero_le _, (fun k m h => by omega), Hp.refl _⟩
                  · rintro nQ lQ w11 ⟨i, y, rfl, hfit, rfl, hi, hlo, H11⟩
                    obtain ⟨j, rfl⟩ := hfit.open
                    refine nR98 ?_
                    clear hfit
                    refine run_seq ?_
                    refine run_seq ?_
                    refine run_still mixed (by kernel_rfl) ?_
                    rintro w12 hw12
                    have H12 := Hp.drew H11; rw [← hw12] at H12
                    refine still_val (ex_move rfl) ?_
                    refine still_val (ex_move rfl) ?_
                    refine still_val (ex_len_slice Try.underlying26 rfl) ?_
                    refine still_test (ex_lss rfl rfl) (fun hp73 => ?_) (fun hp73 => ?_)
                    · have hil : i < (pm.filter fun p => !mkIs n.client p).length := by omega
                      obtain ⟨p1, hp1⟩ := get_of hil
                      obtain ⟨x, hx, hR⟩ := hmf.getL hp1
                      unfold MkR at hR
                      subst hR
                      have hc0 : ((pm.filter fun p => !mkIs n.client p).flatten ++ sv2)[0 + i * 7 + 0]? = some (.int .i64 x.client) := by
                        have h1 := hpf.get hp1 (j := 0) (u := .int .i64 x.client) rfl
                        show (_ ++ _)[0 + i * 7 + 0]? = _
                        rw [Nat.zero_add, List.getElem?_append_left (lt_of_get h1)]; exact h1
                      obtain ⟨gz, rfl⟩ := own_some HC (i := 3) rfl (by have := lt_of_get hc0; omega)
                      refine still_val (ex_move rfl) ?_
                      refine nS98 ?_
                      refine still_yes rfl ?_
                      refine still_val (ex_move rfl) ?_
                      refine still_yes rfl ?_
                      refine still_val (ex_move rfl) ?_
                      refine nS98 ?_
                      refine still_yes rfl ?_
                      refine still_val (ex_idxN Try.underlying26 ty62 rfl rfl rfl hil) ?_
                      refine still_yes rfl ?_
                      refine still_val (ex_fieldAddr fl62_0 rfl) ?_
                      refine nS98 ?_
                      refine still_yes rfl ?_
                      refine still_val (ex_load ty3 rfl ((HC.callN H12).cell (i := 3) rfl hc0)) ?_
                      refine still_yes rfl ?_
                      refine still_val (ex_fieldAddr fl48_6 rfl) ?_
                      refine nS98 ?_
                      refine still_yes rfl ?_
                      refine still_val (ex_load ty3 rfl ((HC.callN H12).cell (i := 1) rfl rfl)) ?_
                      refine still_yes rfl ?_
                      refine still_test (ex_lss rfl rfl) (fun hp82 => ?_) (fun hp82 => ?_)
                      · skip
                        refine still_val (ex_pick_t rfl rfl) ?_
                        refine still_nil ?_
                        refine nR98 ?_
                        refine run_cond_true rfl ?_
                        refine run_skip ?_
                        refine run_block ?_
                        refine run_region ?_
                        refine ops_val (ex_move rfl) ?_
                        refine ops_val (ex_add rfl rfl (IntWalk.i64_in _ (by omega))) ?_
                        refine ops_val (ex_assign rfl) ?_
                        refine ops_nil ?_
                        refine nR98 ?_
                        refine run_nil (blk_normal ?_)
                        refine run_nil (rnd_normal ?_)
                        exact ⟨(pm.filter fun p => !mkIs n.client p).length - (i + 1), by omega, i + 1, _, rfl, (fs (fn (fn (fs (fn (fn (fn (fn (fn (fs (fs (fn (fn (fn (fn (fn (fn (fn (fn (fn (fn (fn (fn (fn (fn (fn (fn (fn (fn (fn (fn (fn (fn (fn (fn (fn (fn (fn (fn (fn (fn (fn (fn (fn (fn (fn (fn (fn (fn (fn (fn (fn (fn (fn (fn (fn (fn (fn (fn (fn (fn (fn (fn (fn (fn (fn (fn (fn (fn (fn (fn (fn (fn (fn (fn (fn (fn (fn (fn (fn (fn (fn (fn (fn (fn (fn (fn (fn (fn (fn (fn (fn (fn (fn (fn (fn (fn (fn f0)))))))))))))))))))))))))))))))))))))))))))))))))))))))))))))))))))))))))))))))))))))))))))))))))), by omega, by omega, fun k m hk hm => by
                          rcases Nat.lt_or_eq_of_le (show k ≤ i by omega) with h | rfl
                          · exact hlo k m h hm
                          · rw [hx] at hm
                            simp only [Option.some.injEq] at hm
                            subst hm; exact hp82, H12⟩
                      · skip
                        refine still_val (ex_pick_t rfl rfl) ?_
                        refine still_nil ?_
                        refine nR98 ?_
                        refine run_cond_false rfl ?_
                        refine run_exit ?_
                        refine rnd_exit ?_
                        refine blk_exit ?_
                        refine run_seq ?_
                        refine run_region ?_
                        replace H12 := HC.callN H12
                        refine ops_val (ex_move rfl) ?_
                        refine ops_val (ex_move rfl) ?_
                        refine ops_val (ex_move rfl) ?_
                        refine ops_val (ex_fieldAddr fl48_6 rfl) ?_
                        refine nO98 ?_
                        refine ops_val (ex_load ty3 rfl (H12.cell (i := 1) rfl rfl)) ?_
                        refine ops_val (ex_fieldAddr fl48_7 rfl) ?_
                        refine ops_val (ex_load ty3 rfl (H12.cell (i := 1) rfl rfl)) ?_
                        refine ops_val (ex_build ty62 pl62 rfl rfl) ?_
                        refine nO98 ?_
                        refine ops_buildSlice Try.underlying26 ty62 H12 rfl (by decide) rfl ?_
                        intro w13 g13 H13 hg13
                        refine ops_call (ex_call gf18 rfl) (insertM _ cv i _ (pm.filter fun p => !mkIs n.client p).length (pm.filter fun p => !mkIs n.client p) rfl (mkC ⟨n.client, n.seq⟩) sv2 _ (H13.pick [3] (by decide)).here hpf honf (by omega) (by rw [hl2]; exact hcv) hgv0 (by omega) (H13.at (i := 4) rfl) rfl rfl (row_not H13 (i := 4) (is := [3]) rfl (by decide)) (by omega)) ?_
                        rintro _ w14 ⟨gw, cw, sw, rfl, hnw, hcw, hgw, Hd⟩
                        have H14 := (H13.callr [3] rfl Hd).pick [0, 1, 2, 5] (by decide)
                        refine ops_val (ex_nilCheck rfl) ?_
                        refine ops_val (ex_fieldAddr fl28_2 rfl) ?_
                        refine nO98 ?_
                        refine ops_store1 ty26 H14 0 rfl rfl rfl rfl (by first | (simp; done) | simp [putAt]) rfl ?_
                        intro w15 H15
                        refine ops_nil ?_
                        refine nR98 ?_
                        refine run_seq ?_
                        refine run_region ?_
                        refine ops_val (ex_assign rfl) ?_
                        refine ops_nil ?_
                        refine nR98 ?_
                        refine run_ret ?_
                        refine fin_ret1 rfl rfl ?_
                        have HW := HB.all H15
                        have hput := putMk_del (v := ⟨n.client, n.seq⟩) (i := i) (mks_rise hg.mks).2 (by rw [← hmfl]; omega) hlo (.inr ⟨x, hx, hp82⟩)
                        have hsp : spend b.last n.client n.seq = putMk b.last ⟨n.client, n.seq⟩ := spend_more (by omega) (hyq rfl) (by omega)
                        rw [← hput] at hsp
                        have hln : ((b.last.filter fun x => !decide (x.client = n.client)).take i ++ (⟨n.client, n.seq⟩ : Mk) :: (b.last.filter fun x => !decide (x.client = n.client)).drop i).length = (pm.filter fun p => !mkIs n.client p).length + 1 := by rw [List.length_append, List.length_cons, List.length_take, List.length_drop, ← hmfl]; omega
                        refine ⟨fun _ => ⟨rfl, _, HW.pick [0] (by decide), A1, k1, A9, k9, hd gw, cw, by rw [hsp, hln]; rfl, hb1.toS HW hks, hS9.toR H15 (fun x hx _ => ⟨hnb x hx, .inr (by omega)⟩), ?_⟩, fun h => absurd hmay h⟩
                        rw [hsp]
                        exact Sl.row HW (i := 3) rfl ((hpf.sub fun x hx => List.mem_of_mem_take hx).app fun x hx => by
                          rcases List.mem_cons.1 hx with rfl | hx
                          · rfl
                          · exact hpf x (List.mem_of_mem_drop hx)) (by decide) ((hmf.take i).app ⟨rfl, hmf.drop i⟩) (fun b hb => row_new (ok := ok) HW (i := 3) rfl (fun c hc => by rw [List.mem_singleton.1 hc]; exact fun e => HW.ne (i := 3) (j := 0) (g := gb) (by rw [e]; rfl) rfl (by decide) rfl) b hb)
                    · skip
                      refine still_val (ex_move rfl) ?_
                      refine nS98 ?_
                      refine still_no rfl ?_
                      refine still_no rfl ?_
                      refine nS98 ?_
                      refine still_no rfl ?_
                      refine still_no rfl ?_
                      refine nS98 ?_
                      refine still_no rfl ?_
                      refine still_no rfl ?_
                      refine nS98 ?_
                      refine still_no rfl ?_
                      refine still_no rfl ?_
                      refine still_val (ex_pick_f rfl rfl) ?_
                      refine still_nil ?_
                      refine nR98 ?_
                      refine run_cond_false rfl ?_
                      refine run_exit ?_
                      refine rnd_exit ?_
                      refine blk_exit ?_
                      refine run_seq ?_
                      refine run_region ?_
                      replace H12 := HC.callN H12
                      refine ops_val (ex_move rfl) ?_
                      refine ops_val (ex_move rfl) ?_
                      refine ops_val (ex_move rfl) ?_
                      refine ops_val (ex_fieldAddr fl48_6 rfl) ?_
                      refine nO98 ?_
                      refine ops_val (ex_load ty3 rfl (H12.cell (i := 1) rfl rfl)) ?_
                      refine ops_val (ex_fieldAddr fl48_7 rfl) ?_
                      refine ops_val (ex_load ty3 rfl (H12.cell (i := 1) rfl rfl)) ?_
                      refine ops_val (ex_build ty62 pl62 rfl rfl) ?_
                      refine nO98 ?_
                      refine ops_buildSlice Try.underlying26 ty62 H12 rfl (by decide) rfl ?_
                      intro w13 g13 H13 hg13
                      refine ops_call (ex_call gf18 rfl) (insertM _ cv i _ (pm.filter fun p => !mkIs n.client p).length (pm.filter fun p => !mkIs n.client p) rfl (mkC ⟨n.client, n.seq⟩) sv2 _ (H13.pick [3] (by decide)).here hpf honf (by omega) (by rw [hl2]; exact hcv) hgv0 (by omega) (H13.at (i := 4) rfl) rfl rfl (row_not H13 (i := 4) (is := [3]) rfl (by decide)) (by omega)) ?_
                      rintro _ w14 ⟨gw, cw, sw, rfl, hnw, hcw, hgw, Hd⟩
                      have H14 := (H13.callr [3] rfl Hd).pick [0, 1, 2, 5] (by decide)
                      refine ops_val (ex_nilCheck rfl) ?_
                      refine ops_val (ex_fieldAddr fl28_2 rfl) ?_
                      refine nO98 ?_
                      refine ops_store1 ty26 H14 0 rfl rfl rfl rfl (by first | (simp; done) | simp [putAt]) rfl ?_
                      intro w15 H15
                      refine ops_nil ?_
                      refine nR98 ?_
                      refine run_seq ?_
                      refine run_region ?_
                      refine ops_val (ex_assign rfl) ?_
                      refine ops_nil ?_
                      refine nR98 ?_
                      refine run_ret ?_
                      refine fin_ret1 rfl rfl ?_
                      have HW := HB.all H15
                      have hput := putMk_del (v := ⟨n.client, n.seq⟩) (i := i) (mks_rise hg.mks).2 (by rw [← hmfl]; omega) hlo (.inl (by rw [← hmfl]; omega))
                      have hsp : spend b.last n.client n.seq = putMk b.last ⟨n.client, n.seq⟩ := spend_more (by omega) (hyq rfl) (by omega)
                      rw [← hput] at hsp
                      have hln : ((b.last.filter fun x => !decide (x.client = n.client)).take i ++ (⟨n.client, n.seq⟩ : Mk) :: (b.last.filter fun x => !decide (x.client = n.client)).drop i).length = (pm.filter fun p => !mkIs n.client p).length + 1 := by rw [List.length_append, List.length_cons, List.length_take, List.length_drop, ← hmfl]; omega
                      refine ⟨fun _ => ⟨rfl, _, HW.pick [0] (by decide), A1, k1, A9, k9, hd gw, cw, by rw [hsp, hln]; rfl, hb1.toS HW hks, hS9.toR H15 (fun x hx _ => ⟨hnb x hx, .inr (by omega)⟩), ?_⟩, fun h => absurd hmay h⟩
                      rw [hsp]
                      exact Sl.row HW (i := 3) rfl ((hpf.sub fun x hx => List.mem_of_mem_take hx).app fun x hx => by
                        rcases List.mem_cons.1 hx with rfl | hx
                        · rfl
                        · exact hpf x (List.mem_of_mem_drop hx)) (by decide) ((hmf.take i).app ⟨rfl, hmf.drop i⟩) (fun b hb => row_new (ok := ok) HW (i := 3) rfl (fun c hc => by rw [List.mem_singleton.1 hc]; exact fun e => HW.ne (i := 3) (j := 0) (g := gb) (by rw [e]; rfl) rfl (by decide) rfl) b hb)
  · obtain rfl := hno hmay
    refine ops_nil ?_
    refine ⟨fun hne => H3.pick [0, 1] (by decide), ?_⟩
    refine mixz_p rfl ?_
    refine mix1_val (fun wz hz => ex_move rfl) ?_
    refine mixz_p rfl ?_
    refine mix1_val (fun wz hz => ex_extract rfl rfl) ?_
    refine nZ98 ?_
    refine mixz_p rfl ?_
    refine mix1_val (fun wz hz => ex_extract rfl rfl) ?_
    refine mixz_p rfl ?_
    refine mix1_val (fun wz hz => ex_assign rfl) ?_
    refine mixz_o rfl ?_
    refine ops_val (ex_assign rfl) ?_
    refine ops_nil ?_
    refine ⟨fun hne => absurd rfl hne, ?_⟩
    refine nZ98 ?_
    refine mixz_nil ?_
    refine nR98 ?_
    refine run_seq ?_
    refine run_seq ?_
    refine run_region ?_
    refine ops_val (ex_move rfl) ?_
    refine ops_true (ex_neq rfl rfl) (by decide) ?_
    refine ops_nil ?_
    refine nR98 ?_
    refine run_cond_true rfl ?_
    refine run_seq ?_
    refine run_region ?_
    refine ops_val (ex_assign rfl) ?_
    refine ops_nil ?_
    refine nR98 ?_
    refine run_ret ?_
    refine fin_ret1 rfl rfl ?_
    exact ⟨fun h => absurd h hmay, fun _ => ⟨rfl, H3.noRows⟩⟩
end Go.Proofs.Ytbninklfoogmdaa
