/- Walks of layer 2, printed by wip/gen/codec.py. -/
import Derived.Test.YtbninklfoogmdaaNrm
import Derived.Test.YtbninklfoogmdaaVaG
namespace Go.Proofs.Ytbninklfoogmdaa
open Go Go.RowKit
set_option linter.unusedVariables false
attribute [local irreducible] Still Ops Does Cd
set_option maxRecDepth 100000 in
set_option maxHeartbeats 16000000 in
theorem entry_v (gs : Nat) (s : Sv) (A1 : Option Addr) (k1 : Nat) (A2 : Option Addr) (k2 : Nat) (A3 : Option Addr) (k3 : Nat) (n : Nt) (B1 : Option Addr) (j1 : Nat) (B2 : Option Addr) (j2 : Nat) (okn : Nat → Prop) (w0 : World) (hrow : w0.heap[gs]? = some (.cells [.int .i64 s.p.r, .int .i64 s.p.n, .slice A1 s.votes.length k1, .int .i64 s.index, .slice A2 s.image.length k2, .slice A3 s.entries.length k3].toArray 39 (0, 0))) (ok : Nat → Prop) (hok : ¬ ok gs) (hv1 : Sl (VtR w0 ok) 4 w0 ok A1 s.votes) (hv2 : Bs w0 ok A2 s.image) (hv3 : Sl (EnR w0 ok) 2 w0 ok A3 s.entries) (hokn : ¬ okn gs) (hb : Bs w0 okn B2 n.entry.val) (hvl : s.votes.length ≤ 1000) (hi : 0 ≤ s.index ∧ s.index ≤ 1099511627776) (he : s.entries.length ≤ 1099511627776) :
    Does Try.prog 21 #[.pointer (some ⟨gs, 0, none⟩), .agg [.int .i64 n.kind, .int .i64 n.group, .int .i64 n.b.r, .int .i64 n.b.n, .int .i64 n.vote.slot, .int .i64 n.vote.b.r, .int .i64 n.vote.b.n, .slice B1 n.vote.val.length j1, .int .i64 n.entry.slot, .slice B2 n.entry.val.length j2, .int .i64 n.right.g, strV n.right.key, .int .i64 n.right.lease, .int .i64 n.right.net, .int .i64 n.client, .int .i64 n.seq].toArray] w0 (fun _ w' => ∃ cs', Hp w0 w' [gs] [((some gs, 39, cs') : Ent)] ∧ SvR w' (up ok w0.heap.size) cs' (if n.entry.slot = s.last + 1 then { s with entries := s.entries ++ [n.entry], votes := behind s.votes n.entry.slot } else s)) := by
  refine does_of Try.func21 Try.ntmps21 rfl ?_
  refine nR38 ?_
  have H := Hp.old hrow
  have hks := up_k (n := w0.heap.size) (ok := ok) (S := [gs]) fun x hx hg => hok (by rw [← List.mem_singleton.1 hg]; exact hx)
  have hkn : ∀ x, okn x → x < w0.heap.size → x ∉ [gs] ∧ okn x := fun x hx _ => ⟨fun hg => hokn (by rw [← List.mem_singleton.1 hg]; exact hx), hx⟩
  obtain ⟨pe, hpe, hre, hae, he2⟩ := id hv3
  have hel := he2.len
  have hon := he2.ones fun _ _ h => h.ones
  have hkB : ∀ x, ok x → x < w0.heap.size → x ∉ [gs] ∧ (ok x ∧ x < w0.heap.size) := fun x hx hl => ⟨(hks x hx hl).1, hx, hl⟩
  refine run_seq ?_
  refine run_region ?_
  refine ops_box rfl rfl H ?_
  intro w1 g1 H1 hg1
  refine ops_nil ?_
  refine nR38 ?_
  refine run_seq ?_
  refine run_region ?_
  refine ops_val (ex_fieldAddr fl48_4 rfl) ?_
  refine ops_val (ex_loadN ty44 rfl (vs := [.int .i64 n.entry.slot, .slice B2 n.entry.val.length j2]) rfl (H1.cellsR (i := 1) rfl rfl)) ?_
  refine ops_alloc ty44 H1 ?_
  intro w2 g2 H2 hg2
  refine ops_store ty44 H2 2 rfl rfl rfl rfl rfl (by first | decide | (simp; done) | simp [putAt]) rfl ?_
  intro w3 H3
  refine ops_nil ?_
  refine nR38 ?_
  refine run_seq ?_
  refine run_seq ?_
  refine run_mixZ 5 [(true, 0), (true, 1), (true, 2), (false, 3), (true, 4), (false, 5)] H3 [0, 1, 2] mixed (by decide) (by kernel_rfl) ?_
  rintro w4 hw4
  have H4 := Hp.drew H3; rw [← hw4] at H4
  refine mixz_p rfl ?_
  refine mix1_val (fun wz hz => ex_fieldAddr fl44_0 rfl) ?_
  refine mixz_p rfl ?_
  refine mix1_val (fun wz hz => ex_load ty3 rfl (hz.cell (i := 2) rfl rfl)) ?_
  refine mixz_p rfl ?_
  refine mix1_val (fun wz hz => ex_move rfl) ?_
  refine mixz_o rfl ?_
  refine ops_call_val (ex_call gf36 rfl) (last_v gs _ _ _ _ s.index A3 s.entries.length k3 _ (H4.at (i := 0) rfl) ⟨by omega, by omega⟩ (by omega)) ?_
  intro w5 Hd
  have H5 := H4.callN Hd
  refine ops_nil ?_
  refine ⟨fun hne => H5.pick [0, 1, 2] (by decide), ?_⟩
  refine nZ38 ?_
  refine mixz_p rfl ?_
  refine mix1_val (fun wz hz => ex_add rfl rfl (IntWalk.i64_in _ (by omega))) ?_
  refine mixz_o rfl ?_
  refine ops_test (ex_neq rfl rfl) (fun hp12 => ?_) (fun hp12 => ?_)
  · skip
    refine ops_nil ?_
    refine ⟨fun hne => absurd rfl hne, ?_⟩
    refine mixz_nil ?_
    refine nR38 ?_
    refine run_cond_true rfl ?_
    refine run_ret ?_
    refine fin_ret0 rfl ?_
    rw [if_neg (by unfold Sv.last; exact hp12)]
    exact ⟨_, H5.pick [0] (by decide), A1, k1, A2, k2, A3, k3, rfl, hv1.toV H5 hks, hv2.to H5 hks, hv3.toE H5 hks⟩
  · skip
    refine ops_nil ?_
    refine ⟨fun hne => absurd rfl hne, ?_⟩
    refine mixz_nil ?_
    refine nR38 ?_
    refine run_cond_false rfl ?_
    refine run_skip ?_
    refine run_seq ?_
    refine run_region ?_
    refine ops_val (ex_fieldAddr fl44_1 rfl) ?_
    refine ops_val (ex_load ty36 rfl (H5.cell (i := 2) rfl rfl)) ?_
    refine ops_call_own (ex_call gf37 rfl) (clone_any B2 n.entry.val j2 _ (hb.to H5 hkn).1 (by have := hb.2.2; omega)) ?_
    intro w6 gb cb sb hmb hcb hgb Hc
    have H6 := H5.call0 Hc
    refine ops_val (ex_fieldAddr fl44_1 rfl) ?_
    refine nO38 ?_
    refine ops_store1 ty36 H6 2 rfl rfl rfl rfl (by first | decide | (simp; done) | simp [putAt]) rfl ?_
    intro w7 H7
    refine ops_nil ?_
    refine nR38 ?_
    refine run_seq ?_
    refine run_mixT 11 (.p 0 (.p 1 (.p 2 (.p 3 (.p 4 (.p 6 (.two 5 (.o 7 (.o 8 (.p 9 (.p 10 (.o 11 .nil))))) 7 (.o 5 (.o 8 (.p 9 (.p 10 (.o 11 .nil)))))))))))) H7 [0, 1, 2, 3] mixed (by decide) (by kernel_rfl) ?_
    rintro w8 hw8
    have H8 := Hp.drew H7; rw [← hw8] at H8
    refine mixt_p rfl ?_
    refine mix1_val (fun wz hz => ex_move rfl) ?_
    refine mixt_p rfl ?_
    refine mix1_val (fun wz hz => ex_move rfl) ?_
    refine mixt_p rfl ?_
    refine mix1_val (fun wz hz => ex_nilCheck rfl) ?_
    refine mixt_p rfl ?_
    refine mix1_val (fun wz hz => ex_fieldAddr fl39_4 rfl) ?_
    change MixT _ _ _ _ _ _ [_, _, _, _, _, _, _, _, _, _, _, _, _, _, _, _, _, _, _, _, _, _, _, _, _, _, _, _, _, _, _, _, _, _, _, _, _, _] _
    refine mixt_p rfl ?_
    refine mix1_val (fun wz hz => ex_load ty37 rfl (hz.cell (i := 0) rfl rfl)) ?_
    refine mixt_p rfl ?_
    refine mix1_val (fun wz hz => ex_loadN ty44 rfl (vs := [.int .i64 n.entry.slot, .slice (hd gb) n.entry.val.length cb]) rfl (hz.cellsR (i := 2) rfl rfl)) ?_
    refine mixt_two ?_ ?_
    · skip
      refine mixt_o rfl ?_
      refine ops_call (ex_call gf42 rfl) (cloneE A3 s.entries.length k3 pe.flatten _ (hre.move (by decide) hae H8 hks).1 (ones_flatten hon) (by omega)) ?_
      rintro _ w9 ⟨ge, ce, se, rfl, hme, hce, hge0, Hc⟩
      have H9 := H8.call0 Hc
      refine ops_nil ?_
      refine ⟨fun hne => H9.pick [0, 1, 2, 3] (by decide), ?_⟩
      change MixT _ _ _ _ _ _ [_, _, _, _, _, _, _, _, _, _, _, _, _, _, _, _, _, _, _, _, _, _, _, _, _, _, _, _, _, _, _, _, _, _, _, _, _, _] _
      refine mixt_o rfl ?_
      refine ops_buildSlice Try.underlying37 ty44 H9 rfl (by decide) rfl ?_
      intro w10 g10 H10 hg10
      refine ops_nil ?_
      refine ⟨fun hne => H10.pick [0, 1, 2, 3] (by decide), ?_⟩
      change MixT _ _ _ _ _ _ [_, _, _, _, _, _, _, _, _, _, _, _, _, _, _, _, _, _, _, _, _, _, _, _, _, _, _, _, _, _, _, _, _, _, _, _, _, _] _
      refine mixt_o rfl ?_
      refine ops_append Try.underlying37 ty44 (by decide) H10 4 (g := ge) (n := s.entries.length) (xs := pe.flatten) (sp := se) rfl rfl (by rw [hpe.len, hel]) hce hme hge0 rfl (H10.rd (i := 5) (o := some _) (xs := ([.int .i64 n.entry.slot, .slice (hd gb) n.entry.val.length cb] : List Value)) (sp := []) rfl rfl (by decide)) rfl (by omega) (by omega) (by decide) ?_
      intro w11 gw cw sw H11 hcw hmw hgw
      refine ops_nil ?_
      refine ⟨fun hne => H11.pick [0, 1, 2, 3] (by decide), ?_⟩
      change MixT _ _ _ _ _ _ [_, _, _, _, _, _, _, _, _, _, _, _, _, _, _, _, _, _, _, _, _, _, _, _, _, _, _, _, _, _, _, _, _, _, _, _, _, _] _
      refine mixt_p rfl ?_
      refine mix1_val (fun wz hz => ex_nilCheck rfl) ?_
      refine mixt_p rfl ?_
      refine mix1_val (fun wz hz => ex_fieldAddr fl39_4 rfl) ?_
      refine mixt_o rfl ?_
      refine ops_store1 ty37 H11 0 rfl rfl rfl rfl (by first | decide | (simp; done) | simp [putAt]) rfl ?_
      intro w12 H12
      refine ops_nil ?_
      refine ⟨fun hne => absurd rfl hne, ?_⟩
      change MixT _ _ _ _ _ _ [_, _, _, _, _, _, _, _, _, _, _, _, _, _, _, _, _, _, _, _, _, _, _, _, _, _, _, _, _, _, _, _, _, _, _, _, _, _] _
      refine mixt_nil ?_
      refine nR38 ?_
      refine run_mixZ 10 [(true, 0), (true, 1), (true, 2), (true, 3), (true, 4), (true, 5), (true, 6), (false, 7), (true, 8), (true, 9), (false, 10)] H12 [0, 1, 2, 3, 4, 5] mixed (by decide) (by kernel_rfl) ?_
      rintro w13 hw13
      have H13 := Hp.drew H12; rw [← hw13] at H13
      refine mixz_p rfl ?_
      refine mix1_val (fun wz hz => ex_move rfl) ?_
      refine mixz_p rfl ?_
      refine mix1_val (fun wz hz => ex_move rfl) ?_
      refine mixz_p rfl ?_
      refine mix1_val (fun wz hz => ex_nilCheck rfl) ?_
      refine mixz_p rfl ?_
      refine mix1_val (fun wz hz => ex_fieldAddr fl39_1 rfl) ?_
      refine nZ38 ?_
      refine mixz_p rfl ?_
      refine mix1_val (fun wz hz => ex_load ty35 rfl (hz.cell (i := 0) rfl rfl)) ?_
      refine mixz_p rfl ?_
      refine mix1_val (fun wz hz => ex_fieldAddr fl44_0 rfl) ?_
      refine mixz_p rfl ?_
      refine mix1_val (fun wz hz => ex_load ty3 rfl (hz.cell (i := 2) rfl rfl)) ?_
      refine mixz_o rfl ?_
      refine ops_call (ex_call gf43 rfl) (behind_v A1 k1 s.votes n.entry.slot (fun x => ok x ∧ x < w0.heap.size) _ (hv1.toV H13 hkB) (by omega)) ?_
      rintro _ w14 ⟨A9, k9, rfl, hv9, Hd⟩
      have hsz9 := H13.size
      have hlt9 := fun x hx => bl_lt H13 (b := x) hx
      have H14 := H13.callN Hd
      have hpl9 := bl_place H14
      refine ops_nil ?_
      refine ⟨fun hne => H14.pick [0, 1, 2, 3, 4, 5] (by decide), ?_⟩
      refine nZ38 ?_
      refine mixz_p rfl ?_
      refine mix1_val (fun wz hz => ex_nilCheck rfl) ?_
      refine mixz_p rfl ?_
      refine mix1_val (fun wz hz => ex_fieldAddr fl39_1 rfl) ?_
      refine mixz_o rfl ?_
      have HB := H14
      have HL := HB.here
      refine ops_store1 ty35 HL 0 rfl rfl rfl rfl (by first | (simp; done) | simp [putAt]) rfl ?_
      intro w15 H15
      have HW := HB.all H15
      have hv9 := hv9.toV (ok' := up ok w0.heap.size) H15 (fun x hx hl => ?_)
      rotate_left
      · rcases hx with hx | hx
        · refine ⟨fun hb => ?_, .inl hx.1⟩
          rcases hpl9 x hb with h | h
          · exact (hks x hx.1 hx.2).1 h
          · have := hx.2; omega
        · exact ⟨fun hb => by have := hlt9 x hb; omega, .inr (by omega)⟩
      refine ops_nil ?_
      refine ⟨fun hne => absurd rfl hne, ?_⟩
      refine nZ38 ?_
      refine mixz_nil ?_
      refine nR38 ?_
      refine run_nil ?_
      refine fin_end0 rfl ?_
      rw [if_pos (by unfold Sv.last; omega)]
      have hgb2 := row_new (ok := ok) HW (i := 3) rfl (fun b hb => by rw [List.mem_singleton.1 hb]; exact fun e => HW.ne (i := 3) (j := 0) (g := gs) (by rw [e]; rfl) rfl (by decide) rfl)
      have hgw2 := row_new (ok := ok) HW (i := 4) rfl (fun b hb => by rw [List.mem_singleton.1 hb]; exact fun e => HW.ne (i := 4) (j := 0) (g := gs) (by rw [e]; rfl) rfl (by decide) rfl)
      have hnew : EnR w15 (up ok w0.heap.size) ([.int .i64 n.entry.slot, .slice (hd gb) n.entry.val.length cb] : List Value) n.entry := ⟨hd gb, cb, rfl, Bs.row HW (i := 3) rfl hb.2.2 hgb2⟩
      have hold := he2.imp (R' := EnR w15 (up ok w0.heap.size)) fun p x h => h.to HW hks
      have hfl : pe.flatten ++ ([.int .i64 n.entry.slot, .slice (hd gb) n.entry.val.length cb] : List Value) = (pe ++ [([.int .i64 n.entry.slot, .slice (hd gb) n.entry.val.length cb] : List Value)]).flatten := by rw [List.flatten_append]; simp
      refine ⟨_, HW.pick [0] (by decide), A9, k9, A2, k2, hd gw, cw, by rw [List.length_append]; rfl, hv9, hv2.to HW hks, ?_⟩
      exact Sl.row HW (i := 4) (by rw [← hfl]; rfl) (hpe.app (Pl.one rfl)) (by decide) (hold.app (All2.one hnew)) hgw2
    · skip
      refine mixt_o rfl ?_
      refine ops_buildSlice Try.underlying37 ty44 H8 rfl (by decide) rfl ?_
      intro w9 g9 H9 hg9
      refine ops_nil ?_
      refine ⟨fun hne => H9.pick [0, 1, 2, 3] (by decide), ?_⟩
      change MixT _ _ _ _ _ _ [_, _, _, _, _, _, _, _, _, _, _, _, _, _, _, _, _, _, _, _, _, _, _, _, _, _, _, _, _, _, _, _, _, _, _, _, _, _] _
      refine mixt_o rfl ?_
      refine ops_call (ex_call gf42 rfl) (cloneE A3 s.entries.length k3 pe.flatten _ (hre.move (by decide) hae H9 hks).1 (ones_flatten hon) (by omega)) ?_
      rintro _ w10 ⟨ge, ce, se, rfl, hme, hce, hge0, Hc⟩
      have H10 := (H9.call0 Hc).pick [0, 1, 2, 3, 5, 4] (by decide)
      refine ops_nil ?_
      refine ⟨fun hne => H10.pick [0, 1, 2, 3] (by decide), ?_⟩
      change MixT _ _ _ _ _ _ [_, _, _, _, _, _, _, _, _, _, _, _, _, _, _, _, _, _, _, _, _, _, _, _, _, _, _, _, _, _, _, _, _, _, _, _, _, _] _
      refine mixt_o rfl ?_
      refine ops_append Try.underlying37 ty44 (by decide) H10 4 (g := ge) (n := s.entries.length) (xs := pe.flatten) (sp := se) rfl rfl (by rw [hpe.len, hel]) hce hme hge0 rfl (H10.rd (i := 5) (o := some _) (xs := ([.int .i64 n.entry.slot, .slice (hd gb) n.entry.val.length cb] : List Value)) (sp := []) rfl rfl (by decide)) rfl (by omega) (by omega) (by decide) ?_
      intro w11 gw cw sw H11 hcw hmw hgw
      refine ops_nil ?_
      refine ⟨fun hne => H11.pick [0, 1, 2, 3] (by decide), ?_⟩
      change MixT _ _ _ _ _ _ [_, _, _, _, _, _, _, _, _, _, _, _, _, _, _, _, _, _, _, _, _, _, _, _, _, _, _, _, _, _, _, _, _, _, _, _, _, _] _
      refine mixt_p rfl ?_
      refine mix1_val (fun wz hz => ex_nilCheck rfl) ?_
      refine mixt_p rfl ?_
      refine mix1_val (fun wz hz => ex_fieldAddr fl39_4 rfl) ?_
      refine mixt_o rfl ?_
      refine ops_store1 ty37 H11 0 rfl rfl rfl rfl (by first | decide | (simp; done) | simp [putAt]) rfl ?_
      intro w12 H12
      refine ops_nil ?_
      refine ⟨fun hne => absurd rfl hne, ?_⟩
      change MixT _ _ _ _ _ _ [_, _, _, _, _, _, _, _, _, _, _, _, _, _, _, _, _, _, _, _, _, _, _, _, _, _, _, _, _, _, _, _, _, _, _, _, _, _] _
      refine mixt_nil ?_
      refine nR38 ?_
      refine run_mixZ 10 [(true, 0), (true, 1), (true, 2), (true, 3), (true, 4), (true, 5), (true, 6), (false, 7), (true, 8), (true, 9), (false, 10)] H12 [0, 1, 2, 3, 4, 5] mixed (by decide) (by kernel_rfl) ?_
      rintro w13 hw13
      have H13 := Hp.drew H12; rw [← hw13] at H13
      refine mixz_p rfl ?_
      refine mix1_val (fun wz hz => ex_move rfl) ?_
      refine mixz_p rfl ?_
      refine mix1_val (fun wz hz => ex_move rfl) ?_
      refine mixz_p rfl ?_
      refine mix1_val (fun wz hz => ex_nilCheck rfl) ?_
      refine mixz_p rfl ?_
      refine mix1_val (fun wz hz => ex_fieldAddr fl39_1 rfl) ?_
      refine nZ38 ?_
      refine mixz_p rfl ?_
      refine mix1_val (fun wz hz => ex_load ty35 rfl (hz.cell (i := 0) rfl rfl)) ?_
      refine mixz_p rfl ?_
      refine mix1_val (fun wz hz => ex_fieldAddr fl44_0 rfl) ?_
      refine mixz_p rfl ?_
      refine mix1_val (fun wz hz => ex_load ty3 rfl (hz.cell (i := 2) rfl rfl)) ?_
      refine mixz_o rfl ?_
      refine ops_call (ex_call gf43 rfl) (behind_v A1 k1 s.votes n.entry.slot (fun x => ok x ∧ x < w0.heap.size) _ (hv1.toV H13 hkB) (by omega)) ?_
      rintro _ w14 ⟨A9, k9, rfl, hv9, Hd⟩
      have hsz9 := H13.size
      have hlt9 := fun x hx => bl_lt H13 (b := x) hx
      have H14 := H13.callN Hd
      have hpl9 := bl_place H14
      refine ops_nil ?_
      refine ⟨fun hne => H14.pick [0, 1, 2, 3, 4, 5] (by decide), ?_⟩
      refine nZ38 ?_
      refine mixz_p rfl ?_
      refine mix1_val (fun wz hz => ex_nilCheck rfl) ?_
      refine mixz_p rfl ?_
      refine mix1_val (fun wz hz => ex_fieldAddr fl39_1 rfl) ?_
      refine mixz_o rfl ?_
      have HB := H14
      have HL := HB.here
      refine ops_store1 ty35 HL 0 rfl rfl rfl rfl (by first | (simp; done) | simp [putAt]) rfl ?_
      intro w15 H15
      have HW := HB.all H15
      have hv9 := hv9.toV (ok' := up ok w0.heap.size) H15 (fun x hx hl => ?_)
      rotate_left
      · rcases hx with hx | hx
        · refine ⟨fun hb => ?_, .inl hx.1⟩
          rcases hpl9 x hb with h | h
          · exact (hks x hx.1 hx.2).1 h
          · have := hx.2; omega
        · exact ⟨fun hb => by have := hlt9 x hb; omega, .inr (by omega)⟩
      refine ops_nil ?_
      refine ⟨fun hne => absurd rfl hne, ?_⟩
      refine nZ38 ?_
      refine mixz_nil ?_
      refine nR38 ?_
      refine run_nil ?_
      refine fin_end0 rfl ?_
      rw [if_pos (by unfold Sv.last; omega)]
      have hgb2 := row_new (ok := ok) HW (i := 3) rfl (fun b hb => by rw [List.mem_singleton.1 hb]; exact fun e => HW.ne (i := 3) (j := 0) (g := gs) (by rw [e]; rfl) rfl (by decide) rfl)
      have hgw2 := row_new (ok := ok) HW (i := 4) rfl (fun b hb => by rw [List.mem_singleton.1 hb]; exact fun e => HW.ne (i := 4) (j := 0) (g := gs) (by rw [e]; rfl) rfl (by decide) rfl)
      have hnew : EnR w15 (up ok w0.heap.size) ([.int .i64 n.entry.slot, .slice (hd gb) n.entry.val.length cb] : List Value) n.entry := ⟨hd gb, cb, rfl, Bs.row HW (i := 3) rfl hb.2.2 hgb2⟩
      have hold := he2.imp (R' := EnR w15 (up ok w0.heap.size)) fun p x h => h.to HW hks
      have hfl : pe.flatten ++ ([.int .i64 n.entry.slot, .slice (hd gb) n.entry.val.length cb] : List Value) = (pe ++ [([.int .i64 n.entry.slot, .slice (hd gb) n.entry.val.length cb] : List Value)]).flatten := by rw [List.flatten_append]; simp
      refine ⟨_, HW.pick [0] (by decide), A9, k9, A2, k2, hd gw, cw, by rw [List.length_append]; rfl, hv9, hv2.to HW hks, ?_⟩
      exact Sl.row HW (i := 4) (by rw [← hfl]; rfl) (hpe.app (Pl.one rfl)) (by decide) (hold.app (All2.one hnew)) hgw2
set_option maxRecDepth 100000 in
set_option maxHeartbeats 16000000 in
theorem image_v (gs : Nat) (s : Sv) (A1 : Option Addr) (k1 : Nat) (A2 : Option Addr) (k2 : Nat) (A3 : Option Addr) (k3 : Nat) (n : Nt) (B1 : Option Addr) (j1 : Nat) (B2 : Option Addr) (j2 : Nat) (okn : Nat → Prop) (w0 : World) (hrow : w0.heap[gs]? = some (.cells [.int .i64 s.p.r, .int .i64 s.p.n, .slice A1 s.votes.length k1, .int .i64 s.index, .slice A2 s.image.length k2, .slice A3 s.entries.length k3].toArray 39 (0, 0))) (ok : Nat → Prop) (hok : ¬ ok gs) (hv1 : Sl (VtR w0 ok) 4 w0 ok A1 s.votes) (hv2 : Bs w0 ok A2 s.image) (hv3 : Sl (EnR w0 ok) 2 w0 ok A3 s.entries) (hokn : ¬ okn gs) (hb : Bs w0 okn B2 n.entry.val) (hvl : s.votes.length ≤ 1000) (hes : ∀ x ∈ s.entries, x.slot ≤ 1099511627776) (hi : 0 ≤ s.index ∧ s.index ≤ 1099511627776) (he : s.entries.length ≤ 1099511627776) :
    Does Try.prog 22 #[.pointer (some ⟨gs, 0, none⟩), .agg [.int .i64 n.kind, .int .i64 n.group, .int .i64 n.b.r, .int .i64 n.b.n, .int .i64 n.vote.slot, .int .i64 n.vote.b.r, .int .i64 n.vote.b.n, .slice B1 n.vote.val.length j1, .int .i64 n.entry.slot, .slice B2 n.entry.val.length j2, .int .i64 n.right.g, strV n.right.key, .int .i64 n.right.lease, .int .i64 n.right.net, .int .i64 n.client, .int .i64 n.seq].toArray] w0 (fun _ w' => ∃ cs', Hp w0 w' [gs] [((some gs, 39, cs') : Ent)] ∧ SvR w' (up ok w0.heap.size) cs' (if n.entry.slot ≤ s.index then s else { s with index := n.entry.slot, image := n.entry.val, entries := imgEn s.entries n.entry.slot, votes := behind s.votes n.entry.slot })) := by
  refine does_of Try.func22 Try.ntmps22 rfl ?_
  refine nR67 ?_
  have H := Hp.old hrow
  have hks := up_k (n := w0.heap.size) (ok := ok) (S := [gs]) fun x hx hg => hok (by rw [← List.mem_singleton.1 hg]; exact hx)
  have hkn : ∀ x, okn x → x < w0.heap.size → x ∉ [gs] ∧ okn x := fun x hx _ => ⟨fun hg => hokn (by rw [← List.mem_singleton.1 hg]; exact hx), hx⟩
  obtain ⟨pe, hpe, hre, hae, he2⟩ := id hv3
  have hel := he2.len
  have hon := he2.ones fun _ _ h => h.ones
  have hkB : ∀ x, ok x → x < w0.heap.size → x ∉ [gs] ∧ (ok x ∧ x < w0.heap.size) := fun x hx hl => ⟨(hks x hx hl).1, hx, hl⟩
  refine run_seq ?_
  refine run_region ?_
  refine ops_box rfl rfl H ?_
  intro w1 g1 H1 hg1
  refine ops_nil ?_
  refine nR67 ?_
  refine run_seq ?_
  refine run_region ?_
  refine ops_val (ex_fieldAddr fl48_4 rfl) ?_
  refine ops_val (ex_loadN ty44 rfl (vs := [.int .i64 n.entry.slot, .slice B2 n.entry.val.length j2]) rfl (H1.cellsR (i := 1) rfl rfl)) ?_
  refine ops_alloc ty44 H1 ?_
  intro w2 g2 H2 hg2
  refine ops_store ty44 H2 2 rfl rfl rfl rfl rfl (by first | decide | (simp; done) | simp [putAt]) rfl ?_
  intro w3 H3
  refine ops_nil ?_
  refine nR67 ?_
  refine run_seq ?_
  refine run_seq ?_
  refine run_mixZ 6 [(true, 0), (true, 1), (true, 2), (true, 3), (true, 4), (true, 5), (false, 6)] H3 [0, 1, 2] mixed (by decide) (by kernel_rfl) ?_
  rintro w4 hw4
  have H4 := Hp.drew H3; rw [← hw4] at H4
  refine mixz_p rfl ?_
  refine mix1_val (fun wz hz => ex_fieldAddr fl44_0 rfl) ?_
  refine mixz_p rfl ?_
  refine mix1_val (fun wz hz => ex_load ty3 rfl (hz.cell (i := 2) rfl rfl)) ?_
  refine mixz_p rfl ?_
  refine mix1_val (fun wz hz => ex_move rfl) ?_
  refine mixz_p rfl ?_
  refine mix1_val (fun wz hz => ex_nilCheck rfl) ?_
  refine nZ67 ?_
  refine mixz_p rfl ?_
  refine mix1_val (fun wz hz => ex_fieldAddr fl39_2 rfl) ?_
  refine mixz_p rfl ?_
  refine mix1_val (fun wz hz => ex_load ty3 rfl (hz.cell (i := 0) rfl rfl)) ?_
  refine mixz_o rfl ?_
  refine ops_test (ex_leq rfl rfl) (fun hp13 => ?_) (fun hp13 => ?_)
  · skip
    refine ops_nil ?_
    refine ⟨fun hne => absurd rfl hne, ?_⟩
    refine mixz_nil ?_
    refine nR67 ?_
    refine run_cond_true rfl ?_
    refine run_ret ?_
    refine fin_ret0 rfl ?_
    rw [if_pos hp13]
    exact ⟨_, H4.pick [0] (by decide), A1, k1, A2, k2, A3, k3, rfl, hv1.toV H4 hks, hv2.to H4 hks, hv3.toE H4 hks⟩
  · skip
    refine ops_nil ?_
    refine ⟨fun hne => absurd rfl hne, ?_⟩
    refine mixz_nil ?_
    refine nR67 ?_
    refine run_cond_false rfl ?_
    refine run_skip ?_
    refine run_seq ?_
    refine run_region ?_
    refine ops_val (ex_move rfl) ?_
    refine ops_val (ex_move rfl) ?_
    refine ops_val (ex_nilCheck rfl) ?_
    refine ops_val (ex_fieldAddr fl39_4 rfl) ?_
    refine nO67 ?_
    refine ops_val (ex_load ty37 rfl (H4.cell (i := 0) rfl rfl)) ?_
    refine ops_call (ex_call gf42 rfl) (cloneE A3 s.entries.length k3 pe.flatten _ (hre.move (by decide) hae H4 hks).1 (ones_flatten hon) (by omega)) ?_
    rintro _ w5 ⟨ge, ce, se, rfl, hme, hce, hge0, Hc⟩
    have H5 := H4.call0 Hc
    refine ops_val (ex_makeFunc rfl rfl) ?_
    refine ops_call (ex_call gf44 rfl) (deleteE ge ce s.entries.length pe hel se 45 _ (vtLe n.entry.slot) _ (H5.pick [3] (by decide)).here hpe hon (by omega) (by omega) hce (prd_image he2 (H5.at (i := 2) rfl) rfl) (row_not H5 (i := 2) (is := [3]) rfl (by decide))) ?_
    rintro _ w6 ⟨se2, rfl, hl2, Hd⟩
    have H6 := (H5.callr [3] rfl Hd).pick [0, 1, 2, 4] (by decide)
    have HI := H6
    have hef := he2.filter (f := fun p => !vtLe n.entry.slot p) (g := fun x => decide (n.entry.slot < x.slot)) (fun p x h => by
      rw [enLe_eq h]
      by_cases hx : x.slot ≤ n.entry.slot
      · rw [decide_eq_true hx, decide_eq_false (by omega)]; rfl
      · rw [decide_eq_false hx, decide_eq_true (by omega)]; rfl)
    have hefl := hef.len
    have hpf : Pl 2 (pe.filter fun p => !vtLe n.entry.slot p) := hpe.sub fun x hx => (List.mem_filter.1 hx).1
    refine nO67 ?_
    refine ops_val (ex_nilCheck rfl) ?_
    refine ops_val (ex_fieldAddr fl39_4 rfl) ?_
    refine ops_store1 ty37 H6 0 rfl rfl rfl rfl (by first | (simp; done) | simp [putAt]) rfl ?_
    intro w7 H7
    refine ops_nil ?_
    refine nR67 ?_
    refine run_seq ?_
    refine run_seq ?_
    refine run_mixZ 18 [(true, 0), (true, 1), (true, 2), (true, 3), (true, 4), (true, 5), (true, 6), (true, 7), (true, 8), (true, 9), (true, 10), (true, 11), (true, 12), (true, 13), (true, 14), (true, 15), (true, 16), (true, 17), (false, 18)] H7 [0, 1, 2, 3] mixed (by decide) (by kernel_rfl) ?_
    rintro w8 hw8
    have H8 := Hp.drew H7; rw [← hw8] at H8
    refine mixz_p rfl ?_
    refine mix1_val (fun wz hz => ex_move rfl) ?_
    refine mixz_p rfl ?_
    refine mix1_val (fun wz hz => ex_nilCheck rfl) ?_
    refine mixz_p rfl ?_
    refine mix1_val (fun wz hz => ex_fieldAddr fl39_4 rfl) ?_
    refine mixz_p rfl ?_
    refine mix1_val (fun wz hz => ex_load ty37 rfl (hz.cell (i := 0) rfl rfl)) ?_
    refine nZ67 ?_
    refine mixz_p rfl ?_
    refine mix1_val (fun wz hz => ex_len_slice Try.underlying37 rfl) ?_
    refine mixz_p rfl ?_
    refine mix1_test (fun wz hz => ex_gtr rfl rfl) (fun hp29 => ?_) (fun hp29 => ?_)
    · obtain ⟨p0, hp0⟩ := get_of (l := (pe.filter fun p => !vtLe n.entry.slot p)) (j := 0) (by omega)
      obtain ⟨e0, he0, hR0⟩ := hef.getL hp0
      have hmem0 := (List.mem_filter.1 (List.mem_of_getElem? he0))
      have hsl0 := hes e0 hmem0.1
      have hgt0 : n.entry.slot < e0.slot := by simpa using hmem0.2
      obtain ⟨Aq, kq, hpq, _⟩ := hR0
      subst hpq
      have hc0 : ((pe.filter fun p => !vtLe n.entry.slot p).flatten ++ se2)[0 + 0 * 2 + 0]? = some (.int .i64 e0.slot) := by
        have h1 := hpf.get hp0 (j := 0) (u := .int .i64 e0.slot) rfl
        rw [List.getElem?_append_left (lt_of_get h1)]; exact h1
      obtain ⟨gx, rfl⟩ := own_some HI (i := 3) rfl (lt_of_get hc0)
      refine mixz_p rfl ?_
      refine mix1_val (fun wz hz => ex_move rfl) ?_
      refine mixz_p rfl ?_
      refine mix1_yes rfl ?_
      refine mix1_val (fun wz hz => ex_move rfl) ?_
      refine mixz_p rfl ?_
      refine mix1_yes rfl ?_
      refine mix1_val (fun wz hz => ex_nilCheck rfl) ?_
      refine nZ67 ?_
      refine mixz_p rfl ?_
      refine mix1_yes rfl ?_
      refine mix1_val (fun wz hz => ex_fieldAddr fl39_4 rfl) ?_
      refine mixz_p rfl ?_
      refine mix1_yes rfl ?_
      refine mix1_val (fun wz hz => ex_load ty37 rfl (hz.cell (i := 0) rfl rfl)) ?_
      refine mixz_p rfl ?_
      refine mix1_yes rfl ?_
      refine mix1_val (fun wz hz => ex_idxN Try.underlying37 ty44 rfl rfl (i := 0) rfl (by omega)) ?_
      refine mixz_p rfl ?_
      refine mix1_yes rfl ?_
      refine mix1_val (fun wz hz => ex_fieldAddr fl44_0 rfl) ?_
      refine nZ67 ?_
      refine mixz_p rfl ?_
      refine mix1_yes rfl ?_
      refine mix1_val (fun wz hz => ex_load ty3 rfl (hz.cell (i := 3) rfl hc0)) ?_
      refine mixz_p rfl ?_
      refine mix1_yes rfl ?_
      refine mix1_val (fun wz hz => ex_fieldAddr fl44_0 rfl) ?_
      refine mixz_p rfl ?_
      refine mix1_yes rfl ?_
      refine mix1_val (fun wz hz => ex_load ty3 rfl (hz.cell (i := 2) rfl rfl)) ?_
      refine mixz_p rfl ?_
      refine mix1_yes rfl ?_
      refine mix1_val (fun wz hz => ex_add rfl rfl (IntWalk.i64_in _ (by omega))) ?_
      refine nZ67 ?_
      refine mixz_p rfl ?_
      refine mix1_yes rfl ?_
      refine mix1_test (fun wz hz => ex_neq rfl rfl) (fun hp41 => ?_) (fun hp41 => ?_)
      · skip
        refine mixz_o rfl ?_
        refine ops_val (ex_pick_t rfl rfl) ?_
        refine ops_nil ?_
        refine ⟨fun hne => absurd rfl hne, ?_⟩
        refine nZ67 ?_
        refine mixz_nil ?_
        refine nR67 ?_
        refine run_cond_true rfl ?_
        refine run_region ?_
        refine ops_val (ex_move rfl) ?_
        refine ops_val (ex_nilCheck rfl) ?_
        refine ops_val (ex_fieldAddr fl39_4 rfl) ?_
        refine ops_store1 ty37 H8 0 rfl rfl rfl rfl (by first | (simp; done) | simp [putAt]) rfl ?_
        intro w9 H9
        refine ops_nil ?_
        refine nR67 ?_
        refine run_seq ?_
        refine run_mixZ 12 [(true, 0), (true, 1), (true, 2), (true, 3), (true, 4), (true, 5), (false, 6), (true, 7), (true, 8), (false, 9), (true, 10), (true, 11), (false, 12)] H9 [1, 2, 3] mixed (by decide) (by kernel_rfl) ?_
        rintro w10 hw10
        have H10 := Hp.drew H9; rw [← hw10] at H10
        refine mixz_p rfl ?_
        refine mix1_val (fun wz hz => ex_move rfl) ?_
        refine mixz_p rfl ?_
        refine mix1_val (fun wz hz => ex_move rfl) ?_
        refine mixz_p rfl ?_
        refine mix1_val (fun wz hz => ex_fieldAddr fl44_0 rfl) ?_
        refine mixz_p rfl ?_
        refine mix1_val (fun wz hz => ex_load ty3 rfl (hz.cell (i := 1) rfl rfl)) ?_
        refine nZ67 ?_
        refine mixz_p rfl ?_
        refine mix1_val (fun wz hz => ex_fieldAddr fl44_1 rfl) ?_
        refine mixz_p rfl ?_
        refine mix1_val (fun wz hz => ex_load ty36 rfl (hz.cell (i := 1) rfl rfl)) ?_
        refine mixz_o rfl ?_
        refine ops_call_own (ex_call gf37 rfl) (clone_any B2 n.entry.val j2 _ (hb.to H10 hkn).1 (by have := hb.2.2; omega)) ?_
        intro w11 gb cb sb hmb hcb hgb Hc
        have H11 := H10.call0 Hc
        refine ops_nil ?_
        refine ⟨fun hne => H11.pick [1, 2, 3] (by decide), ?_⟩
        refine nZ67 ?_
        refine mixz_p rfl ?_
        refine mix1_val (fun wz hz => ex_nilCheck rfl) ?_
        refine mixz_p rfl ?_
        refine mix1_val (fun wz hz => ex_fieldAddr fl39_2 rfl) ?_
        refine mixz_o rfl ?_
        refine ops_store1 ty3 H11 0 rfl rfl rfl rfl (by first | decide | (simp; done) | simp [putAt]) rfl ?_
        intro w12 H12
        refine ops_nil ?_
        refine ⟨fun hne => H12.pick [1, 2, 3] (by decide), ?_⟩
        refine nZ67 ?_
        refine mixz_p rfl ?_
        refine mix1_val (fun wz hz => ex_nilCheck rfl) ?_
        refine mixz_p rfl ?_
        refine mix1_val (fun wz hz => ex_fieldAddr fl39_3 rfl) ?_
        refine mixz_o rfl ?_
        refine ops_store1 ty36 H12 0 rfl rfl rfl rfl (by first | decide | (simp; done) | simp [putAt]) rfl ?_
        intro w13 H13
        refine ops_nil ?_
        refine ⟨fun hne => absurd rfl hne, ?_⟩
        refine nZ67 ?_
        refine mixz_nil ?_
        refine nR67 ?_
        refine run_mixZ 10 [(true, 0), (true, 1), (true, 2), (true, 3), (true, 4), (true, 5), (true, 6), (false, 7), (true, 8), (true, 9), (false, 10)] H13 [0, 1, 2, 3, 4] mixed (by decide) (by kernel_rfl) ?_
        rintro w14 hw14
        have H14 := Hp.drew H13; rw [← hw14] at H14
        refine mixz_p rfl ?_
        refine mix1_val (fun wz hz => ex_move rfl) ?_
        refine mixz_p rfl ?_
        refine mix1_val (fun wz hz => ex_move rfl) ?_
        refine mixz_p rfl ?_
        refine mix1_val (fun wz hz => ex_nilCheck rfl) ?_
        refine mixz_p rfl ?_
        refine mix1_val (fun wz hz => ex_fieldAddr fl39_1 rfl) ?_
        refine nZ67 ?_
        refine mixz_p rfl ?_
        refine mix1_val (fun wz hz => ex_load ty35 rfl (hz.cell (i := 0) rfl rfl)) ?_
        refine mixz_p rfl ?_
        refine mix1_val (fun wz hz => ex_fieldAddr fl44_0 rfl) ?_
        refine mixz_p rfl ?_
        refine mix1_val (fun wz hz => ex_load ty3 rfl (hz.cell (i := 2) rfl rfl)) ?_
        refine mixz_o rfl ?_
        refine ops_call (ex_call gf43 rfl) (behind_v A1 k1 s.votes n.entry.slot (fun x => ok x ∧ x < w0.heap.size) _ (hv1.toV H14 hkB) (by omega)) ?_
        rintro _ w15 ⟨A9, k9, rfl, hv9, Hd⟩
        have hsz9 := H14.size
        have hlt9 := fun x hx => bl_lt H14 (b := x) hx
        have H15 := H14.callN Hd
        have hpl9 := bl_place H15
        refine ops_nil ?_
        refine ⟨fun hne => H15.pick [0, 1, 2, 3, 4] (by decide), ?_⟩
        refine nZ67 ?_
        refine mixz_p rfl ?_
        refine mix1_val (fun wz hz => ex_nilCheck rfl) ?_
        refine mixz_p rfl ?_
        refine mix1_val (fun wz hz => ex_fieldAddr fl39_1 rfl) ?_
        refine mixz_o rfl ?_
        have HB := H15
        have HL := HB.here
        refine ops_store1 ty35 HL 0 rfl rfl rfl rfl (by first | (simp; done) | simp [putAt]) rfl ?_
        intro w16 H16
        have HW := HB.all H16
        have hv9 := hv9.toV (ok' := up ok w0.heap.size) H16 (fun x hx hl => ?_)
        rotate_left
        · rcases hx with hx | hx
          · refine ⟨fun hb => ?_, .inl hx.1⟩
            rcases hpl9 x hb with h | h
            · exact (hks x hx.1 hx.2).1 h
            · have := hx.2; omega
          · exact ⟨fun hb => by have := hlt9 x hb; omega, .inr (by omega)⟩
        refine ops_nil ?_
        refine ⟨fun hne => absurd rfl hne, ?_⟩
        refine nZ67 ?_
        refine mixz_nil ?_
        refine nR67 ?_
        refine run_nil ?_
        refine fin_end0 rfl ?_
        rw [if_neg hp13]
        have hgb2 := row_new (ok := ok) HW (i := 4) rfl (fun b hb => by rw [List.mem_singleton.1 hb]; exact fun e => HW.ne (i := 4) (j := 0) (g := gs) (by rw [e]; rfl) rfl (by decide) rfl)
        have hge2 := row_new (ok := ok) HW (i := 3) rfl (fun b hb => by rw [List.mem_singleton.1 hb]; exact fun e => HW.ne (i := 3) (j := 0) (g := gs) (by rw [e]; rfl) rfl (by decide) rfl)
        have hold := hef.imp (R' := EnR w16 (up ok w0.heap.size)) fun p x h => h.to HW hks
        have h0 : imgEn s.entries n.entry.slot = [] := by
          unfold imgEn
          cases hq : (s.entries.filter fun x => decide (n.entry.slot < x.slot)) with
          | nil => rfl
          | cons a r =>
            rw [hq] at he0
            cases he0
            exact if_neg hp41
        rw [h0]
        refine ⟨_, HW.pick [0] (by decide), A9, k9, hd gb, cb, none, 0, rfl, hv9, Bs.row HW (i := 4) rfl hb.2.2 hgb2, Sl.none _ _ _ _⟩
      · skip
        refine mixz_o rfl ?_
        refine ops_val (ex_pick_t rfl rfl) ?_
        refine ops_nil ?_
        refine ⟨fun hne => absurd rfl hne, ?_⟩
        refine nZ67 ?_
        refine mixz_nil ?_
        refine nR67 ?_
        refine run_cond_false rfl ?_
        refine run_skip ?_
        refine run_seq ?_
        refine run_mixZ 12 [(true, 0), (true, 1), (true, 2), (true, 3), (true, 4), (true, 5), (false, 6), (true, 7), (true, 8), (false, 9), (true, 10), (true, 11), (false, 12)] H8 [1, 2, 3] mixed (by decide) (by kernel_rfl) ?_
        rintro w9 hw9
        have H9 := Hp.drew H8; rw [← hw9] at H9
        refine mixz_p rfl ?_
        refine mix1_val (fun wz hz => ex_move rfl) ?_
        refine mixz_p rfl ?_
        refine mix1_val (fun wz hz => ex_move rfl) ?_
        refine mixz_p rfl ?_
        refine mix1_val (fun wz hz => ex_fieldAddr fl44_0 rfl) ?_
        refine mixz_p rfl ?_
        refine mix1_val (fun wz hz => ex_load ty3 rfl (hz.cell (i := 1) rfl rfl)) ?_
        refine nZ67 ?_
        refine mixz_p rfl ?_
        refine mix1_val (fun wz hz => ex_fieldAddr fl44_1 rfl) ?_
        refine mixz_p rfl ?_
        refine mix1_val (fun wz hz => ex_load ty36 rfl (hz.cell (i := 1) rfl rfl)) ?_
        refine mixz_o rfl ?_
        refine ops_call_own (ex_call gf37 rfl) (clone_any B2 n.entry.val j2 _ (hb.to H9 hkn).1 (by have := hb.2.2; omega)) ?_
        intro w10 gb cb sb hmb hcb hgb Hc
        have H10 := H9.call0 Hc
        refine ops_nil ?_
        refine ⟨fun hne => H10.pick [1, 2, 3] (by decide), ?_⟩
        refine nZ67 ?_
        refine mixz_p rfl ?_
        refine mix1_val (fun wz hz => ex_nilCheck rfl) ?_
        refine mixz_p rfl ?_
        refine mix1_val (fun wz hz => ex_fieldAddr fl39_2 rfl) ?_
        refine mixz_o rfl ?_
        refine ops_store1 ty3 H10 0 rfl rfl rfl rfl (by first | decide | (simp; done) | simp [putAt]) rfl ?_
        intro w11 H11
        refine ops_nil ?_
        refine ⟨fun hne => H11.pick [1, 2, 3] (by decide), ?_⟩
        refine nZ67 ?_
        refine mixz_p rfl ?_
        refine mix1_val (fun wz hz => ex_nilCheck rfl) ?_
        refine mixz_p rfl ?_
        refine mix1_val (fun wz hz => ex_fieldAddr fl39_3 rfl) ?_
        refine mixz_o rfl ?_
        refine ops_store1 ty36 H11 0 rfl rfl rfl rfl (by first | decide | (simp; done) | simp [putAt]) rfl ?_
        intro w12 H12
        refine ops_nil ?_
        refine ⟨fun hne => absurd rfl hne, ?_⟩
        refine nZ67 ?_
        refine mixz_nil ?_
        refine nR67 ?_
        refine run_mixZ 10 [(true, 0), (true, 1), (true, 2), (true, 3), (true, 4), (true, 5), (true, 6), (false, 7), (true, 8), (true, 9), (false, 10)] H12 [0, 1, 2, 3, 4] mixed (by decide) (by kernel_rfl) ?_
        rintro w13 hw13
        have H13 := Hp.drew H12; rw [← hw13] at H13
        refine mixz_p rfl ?_
        refine mix1_val (fun wz hz => ex_move rfl) ?_
        refine mixz_p rfl ?_
        refine mix1_val (fun wz hz => ex_move rfl) ?_
        refine mixz_p rfl ?_
        refine mix1_val (fun wz hz => ex_nilCheck rfl) ?_
        refine mixz_p rfl ?_
        refine mix1_val (fun wz hz => ex_fieldAddr fl39_1 rfl) ?_
        refine nZ67 ?_
        refine mixz_p rfl ?_
        refine mix1_val (fun wz hz => ex_load ty35 rfl (hz.cell (i := 0) rfl rfl)) ?_
        refine mixz_p rfl ?_
        refine mix1_val (fun wz hz => ex_fieldAddr fl44_0 rfl) ?_
        refine mixz_p rfl ?_
        refine mix1_val (fun wz hz => ex_load ty3 rfl (hz.cell (i := 2) rfl rfl)) ?_
        refine mixz_o rfl ?_
        refine ops_call (ex_call gf43 rfl) (behind_v A1 k1 s.votes n.entry.slot (fun x => ok x ∧ x < w0.heap.size) _ (hv1.toV H13 hkB) (by omega)) ?_
        rintro _ w14 ⟨A9, k9, rfl, hv9, Hd⟩
        have hsz9 := H13.size
        have hlt9 := fun x hx => bl_lt H13 (b := x) hx
        have H14 := H13.callN Hd
        have hpl9 := bl_place H14
        refine ops_nil ?_
        refine ⟨fun hne => H14.pick [0, 1, 2, 3, 4] (by decide), ?_⟩
        refine nZ67 ?_
        refine mixz_p rfl ?_
        refine mix1_val (fun wz hz => ex_nilCheck rfl) ?_
        refine mixz_p rfl ?_
        refine mix1_val (fun wz hz => ex_fieldAddr fl39_1 rfl) ?_
        refine mixz_o rfl ?_
        have HB := H14
        have HL := HB.here
        refine ops_store1 ty35 HL 0 rfl rfl rfl rfl (by first | (simp; done) | simp [putAt]) rfl ?_
        intro w15 H15
        have HW := HB.all H15
        have hv9 := hv9.toV (ok' := up ok w0.heap.size) H15 (fun x hx hl => ?_)
        rotate_left
        · rcases hx with hx | hx
          · refine ⟨fun hb => ?_, .inl hx.1⟩
            rcases hpl9 x hb with h | h
            · exact (hks x hx.1 hx.2).1 h
            · have := hx.2; omega
          · exact ⟨fun hb => by have := hlt9 x hb; omega, .inr (by omega)⟩
        refine ops_nil ?_
        refine ⟨fun hne => absurd rfl hne, ?_⟩
        refine nZ67 ?_
        refine mixz_nil ?_
        refine nR67 ?_
        refine run_nil ?_
        refine fin_end0 rfl ?_
        rw [if_neg hp13]
        have hgb2 := row_new (ok := ok) HW (i := 4) rfl (fun b hb => by rw [List.mem_singleton.1 hb]; exact fun e => HW.ne (i := 4) (j := 0) (g := gs) (by rw [e]; rfl) rfl (by decide) rfl)
        have hge2 := row_new (ok := ok) HW (i := 3) rfl (fun b hb => by rw [List.mem_singleton.1 hb]; exact fun e => HW.ne (i := 3) (j := 0) (g := gs) (by rw [e]; rfl) rfl (by decide) rfl)
        have hold := hef.imp (R' := EnR w15 (up ok w0.heap.size)) fun p x h => h.to HW hks
        have h0 : imgEn s.entries n.entry.slot = (s.entries.filter fun x => decide (n.entry.slot < x.slot)) := by
          unfold imgEn
          cases hq : (s.entries.filter fun x => decide (n.entry.slot < x.slot)) with
          | nil => simp [hq] at he0
          | cons a r =>
            rw [hq] at he0
            cases he0
            exact if_pos (by omega)
        rw [h0]
        refine ⟨_, HW.pick [0] (by decide), A9, k9, hd gb, cb, hd (some gx), ce, by rw [← hefl]; rfl, hv9, Bs.row HW (i := 4) rfl hb.2.2 hgb2, Sl.row HW (i := 3) rfl hpf (by decide) hold hge2⟩
    · skip
      refine mixz_p rfl ?_
      refine mix1_val (fun wz hz => ex_move rfl) ?_
      refine mixz_p rfl ?_
      refine mix1_no rfl ?_
      refine nZ67 ?_
      refine mixz_p rfl ?_
      refine mix1_no rfl ?_
      refine mixz_p rfl ?_
      refine mix1_no rfl ?_
      refine nZ67 ?_
      refine mixz_p rfl ?_
      refine mix1_no rfl ?_
      refine mixz_p rfl ?_
      refine mix1_no rfl ?_
      refine nZ67 ?_
      refine mixz_p rfl ?_
      refine mix1_no rfl ?_
      refine mixz_p rfl ?_
      refine mix1_no rfl ?_
      refine nZ67 ?_
      refine mixz_p rfl ?_
      refine mix1_no rfl ?_
      refine mixz_p rfl ?_
      refine mix1_no rfl ?_
      refine nZ67 ?_
      refine mixz_p rfl ?_
      refine mix1_no rfl ?_
      refine mixz_p rfl ?_
      refine mix1_no rfl ?_
      refine nZ67 ?_
      refine mixz_o rfl ?_
      refine ops_val (ex_pick_f rfl rfl) ?_
      refine ops_nil ?_
      refine ⟨fun hne => absurd rfl hne, ?_⟩
      refine nZ67 ?_
      refine mixz_nil ?_
      refine nR67 ?_
      refine run_cond_false rfl ?_
      refine run_skip ?_
      refine run_seq ?_
      refine run_mixZ 12 [(true, 0), (true, 1), (true, 2), (true, 3), (true, 4), (true, 5), (false, 6), (true, 7), (true, 8), (false, 9), (true, 10), (true, 11), (false, 12)] H8 [1, 2, 3] mixed (by decide) (by kernel_rfl) ?_
      rintro w9 hw9
      have H9 := Hp.drew H8; rw [← hw9] at H9
      refine mixz_p rfl ?_
      refine mix1_val (fun wz hz => ex_move rfl) ?_
      refine mixz_p rfl ?_
      refine mix1_val (fun wz hz => ex_move rfl) ?_
      refine mixz_p rfl ?_
      refine mix1_val (fun wz hz => ex_fieldAddr fl44_0 rfl) ?_
      refine mixz_p rfl ?_
      refine mix1_val (fun wz hz => ex_load ty3 rfl (hz.cell (i := 1) rfl rfl)) ?_
      refine nZ67 ?_
      refine mixz_p rfl ?_
      refine mix1_val (fun wz hz => ex_fieldAddr fl44_1 rfl) ?_
      refine mixz_p rfl ?_
      refine mix1_val (fun wz hz => ex_load ty36 rfl (hz.cell (i := 1) rfl rfl)) ?_
      refine mixz_o rfl ?_
      refine ops_call_own (ex_call gf37 rfl) (clone_any B2 n.entry.val j2 _ (hb.to H9 hkn).1 (by have := hb.2.2; omega)) ?_
      intro w10 gb cb sb hmb hcb hgb Hc
      have H10 := H9.call0 Hc
      refine ops_nil ?_
      refine ⟨fun hne => H10.pick [1, 2, 3] (by decide), ?_⟩
      refine nZ67 ?_
      refine mixz_p rfl ?_
      refine mix1_val (fun wz hz => ex_nilCheck rfl) ?_
      refine mixz_p rfl ?_
      refine mix1_val (fun wz hz => ex_fieldAddr fl39_2 rfl) ?_
      refine mixz_o rfl ?_
      refine ops_store1 ty3 H10 0 rfl rfl rfl rfl (by first | decide | (simp; done) | simp [putAt]) rfl ?_
      intro w11 H11
      refine ops_nil ?_
      refine ⟨fun hne => H11.pick [1, 2, 3] (by decide), ?_⟩
      refine nZ67 ?_
      refine mixz_p rfl ?_
      refine mix1_val (fun wz hz => ex_nilCheck rfl) ?_
      refine mixz_p rfl ?_
      refine mix1_val (fun wz hz => ex_fieldAddr fl39_3 rfl) ?_
      refine mixz_o rfl ?_
      refine ops_store1 ty36 H11 0 rfl rfl rfl rfl (by first | decide | (simp; done) | simp [putAt]) rfl ?_
      intro w12 H12
      refine ops_nil ?_
      refine ⟨fun hne => absurd rfl hne, ?_⟩
      refine nZ67 ?_
      refine mixz_nil ?_
      refine nR67 ?_
      refine run_mixZ 10 [(true, 0), (true, 1), (true, 2), (true, 3), (true, 4), (true, 5), (true, 6), (false, 7), (true, 8), (true, 9), (false, 10)] H12 [0, 1, 2, 3, 4] mixed (by decide) (by kernel_rfl) ?_
      rintro w13 hw13
      have H13 := Hp.drew H12; rw [← hw13] at H13
      refine mixz_p rfl ?_
      refine mix1_val (fun wz hz => ex_move rfl) ?_
      refine mixz_p rfl ?_
      refine mix1_val (fun wz hz => ex_move rfl) ?_
      refine mixz_p rfl ?_
      refine mix1_val (fun wz hz => ex_nilCheck rfl) ?_
      refine mixz_p rfl ?_
      refine mix1_val (fun wz hz => ex_fieldAddr fl39_1 rfl) ?_
      refine nZ67 ?_
      refine mixz_p rfl ?_
      refine mix1_val (fun wz hz => ex_load ty35 rfl (hz.cell (i := 0) rfl rfl)) ?_
      refine mixz_p rfl ?_
      refine mix1_val (fun wz hz => ex_fieldAddr fl44_0 rfl) ?_
      refine mixz_p rfl ?_
      refine mix1_val (fun wz hz => ex_load ty3 rfl (hz.cell (i := 2) rfl rfl)) ?_
      refine mixz_o rfl ?_
      refine ops_call (ex_call gf43 rfl) (behind_v A1 k1 s.votes n.entry.slot (fun x => ok x ∧ x < w0.heap.size) _ (hv1.toV H13 hkB) (by omega)) ?_
      rintro _ w14 ⟨A9, k9, rfl, hv9, Hd⟩
      have hsz9 := H13.size
      have hlt9 := fun x hx => bl_lt H13 (b := x) hx
      have H14 := H13.callN Hd
      have hpl9 := bl_place H14
      refine ops_nil ?_
      refine ⟨fun hne => H14.pick [0, 1, 2, 3, 4] (by decide), ?_⟩
      refine nZ67 ?_
      refine mixz_p rfl ?_
      refine mix1_val (fun wz hz => ex_nilCheck rfl) ?_
      refine mixz_p rfl ?_
      refine mix1_val (fun wz hz => ex_fieldAddr fl39_1 rfl) ?_
      refine mixz_o rfl ?_
      have HB := H14
      have HL := HB.here
      refine ops_store1 ty35 HL 0 rfl rfl rfl rfl (by first | (simp; done) | simp [putAt]) rfl ?_
      intro w15 H15
      have HW := HB.all H15
      have hv9 := hv9.toV (ok' := up ok w0.heap.size) H15 (fun x hx hl => ?_)
      rotate_left
      · rcases hx with hx | hx
        · refine ⟨fun hb => ?_, .inl hx.1⟩
          rcases hpl9 x hb with h | h
          · exact (hks x hx.1 hx.2).1 h
          · have := hx.2; omega
        · exact ⟨fun hb => by have := hlt9 x hb; omega, .inr (by omega)⟩
      refine ops_nil ?_
      refine ⟨fun hne => absurd rfl hne, ?_⟩
      refine nZ67 ?_
      refine mixz_nil ?_
      refine nR67 ?_
      refine run_nil ?_
      refine fin_end0 rfl ?_
      rw [if_neg hp13]
      have hgb2 := row_new (ok := ok) HW (i := 4) rfl (fun b hb => by rw [List.mem_singleton.1 hb]; exact fun e => HW.ne (i := 4) (j := 0) (g := gs) (by rw [e]; rfl) rfl (by decide) rfl)
      have hge2 := row_new (ok := ok) HW (i := 3) rfl (fun b hb => by rw [List.mem_singleton.1 hb]; exact fun e => HW.ne (i := 3) (j := 0) (g := gs) (by rw [e]; rfl) rfl (by decide) rfl)
      have hold := hef.imp (R' := EnR w15 (up ok w0.heap.size)) fun p x h => h.to HW hks
      have h0 : imgEn s.entries n.entry.slot = (s.entries.filter fun x => decide (n.entry.slot < x.slot)) := by
        unfold imgEn
        have : (s.entries.filter fun x => decide (n.entry.slot < x.slot)) = [] := List.eq_nil_of_length_eq_zero (by omega)
        rw [this]
      rw [h0]
      refine ⟨_, HW.pick [0] (by decide), A9, k9, hd gb, cb, hd ge, ce, by rw [← hefl]; rfl, hv9, Bs.row HW (i := 4) rfl hb.2.2 hgb2, Sl.row HW (i := 3) rfl hpf (by decide) hold hge2⟩
end Go.Proofs.Ytbninklfoogmdaa
